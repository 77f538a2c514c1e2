/-
  Layer 19: what the registry's functions give.
-/
import Derived.Test.YtlcoanbdaephiaaObD
namespace Go.Proofs.Ytlcoanbdaephiaa.Ob
open Go.RowKit L A
set_option linter.unusedVariables false
set_option linter.unusedSimpArgs false
attribute [local irreducible] AW AQ AO

def cancelW (ws : List Watch) (p : Int) (tk : List UInt8) : List Watch := ws.filter fun w => w.peer != p || !(w.tok == tk)
def forgetW (ws : List Watch) (p : Int) : List Watch := ws.filter fun w => w.peer != p
def regW (ws : List Watch) (p : Int) (tk ky : List UInt8) (now : Int) : List Watch × Int :=
  if (!validW ws || !soundB p tk ky 0 now) = true then ([], 1) else
  if 16 ≤ (ws.filter fun w => !meetsB w.peer w.tok w.key p tk ky).length then ([], 16) else ((ws.filter fun w => !meetsB w.peer w.tok w.key p tk ky) ++ [⟨p, tk, ky, 0, now⟩], 0)

theorem filter_le (K : Watch → Bool) {ws : List Watch} (h : Short ws) : (ws.filter K).length ≤ ws.length ∧ ws.length ≤ 1000000 := ⟨List.length_filter_le K ws, h.1⟩

theorem forget_fn (ws : List Watch) (hsh : Short ws) (p : Int) : Sp Try.prog 28 [roW ws, .val (.int .i64 p)] [] (Is (roW (forgetW ws p))) := by
  have HF := filter_fn ws hsh (fun w => w.peer != p) _ [.rp [.val (.int .i64 p)] 0] _ Try.func44 rfl rfl (fun p' tk' ky' s' t' => c3_fn _ _ _ _ _ _)
  refine Sp.enter Try.func28 rfl _ Try.ntmps28 rfl (fun w0 R0 => ?_)
  refine AW.seq ?_
  refine AW.region ?_
  refine AO.opB (O.box rfl rfl rfl rfl rfl) rfl rfl rfl ?_
  intro B
  refine AO.op (O.assign rfl rfl) rfl rfl rfl ?_
  refine AO.nil ?_
  refine AQ.thenN ?_
  refine AW.seq ?_
  refine AW.region ?_
  refine AO.op (O.move rfl rfl) rfl rfl rfl ?_
  refine AO.g ?_
  first | (refine G.freezePtr 0 3 rfl rfl ?_) | (refine G.freezePtr 1 3 rfl rfl ?_) | (refine G.freezePtr 2 3 rfl rfl ?_) | (refine G.freezePtr 3 3 rfl rfl ?_) | (refine G.freezePtr 4 3 rfl rfl ?_) | (refine G.freezePtr 5 3 rfl rfl ?_) | (refine G.freezePtr 6 3 rfl rfl ?_) | (refine G.freezePtr 7 3 rfl rfl ?_)
  refine AO.u ?_
  dsimp only [List.eraseIdx]
  refine AO.op (O.fn rfl rfl) rfl rfl rfl ?_
  refine AO.opRow (O.call rfl Try.func38 rfl rfl rfl (HF)) rfl rfl rfl ?_
  intro V hV
  refine AO.op (O.assign rfl rfl) rfl rfl rfl ?_
  refine AO.nil ?_
  refine AQ.thenN ?_
  refine AW.ret ?_
  refine AQ.g ?_
  first | (refine G.freezeRow 0 rfl [4] (by repeat (first | exact frNil | refine frCons rfl ?_)) ?_) | (refine G.freezeRow 1 rfl [4] (by repeat (first | exact frNil | refine frCons rfl ?_)) ?_) | (refine G.freezeRow 2 rfl [4] (by repeat (first | exact frNil | refine frCons rfl ?_)) ?_) | (refine G.freezeRow 3 rfl [4] (by repeat (first | exact frNil | refine frCons rfl ?_)) ?_) | (refine G.freezeRow 4 rfl [4] (by repeat (first | exact frNil | refine frCons rfl ?_)) ?_)
  refine AQ.u ?_
  dsimp only [List.map, List.eraseIdx, List.cons_append, List.nil_append]
  refine AQ.ret1 rfl rfl ⟨_, List.nil_sublist _, .nil⟩ (⟨rfl, rfl⟩)
theorem cancel_fn (ws : List Watch) (hsh : Short ws) (p : Int) (tk : List UInt8) : Sp Try.prog 26 [roW ws, .val (.int .i64 p), roB tk] [] (Is (.tup [roW (cancelW ws p tk), .val (.bool (decide ((cancelW ws p tk).length < ws.length)))])) := by
  have HF := filter_fn ws hsh (fun w => w.peer != p || !(w.tok == tk)) _ [.rp [.val (.int .i64 p)] 0, .rp [roB tk] 0] _ Try.func42 rfl rfl (fun p' tk' ky' s' t' => c2_fn _ _ _ _ _ _ _)
  refine Sp.enter Try.func26 rfl _ Try.ntmps26 rfl (fun w0 R0 => ?_)
  refine AW.seq ?_
  refine AW.region ?_
  refine AO.opB (O.box rfl rfl rfl rfl rfl) rfl rfl rfl ?_
  intro B
  refine AO.opB (O.box rfl rfl rfl rfl rfl) rfl rfl rfl ?_
  intro B
  refine AO.op (O.assign rfl rfl) rfl rfl rfl ?_
  refine AO.op (O.assign rfl rfl) rfl rfl rfl ?_
  refine AO.nil ?_
  refine AQ.thenN ?_
  refine AW.seq ?_
  refine AW.region ?_
  refine AO.op (O.move rfl rfl) rfl rfl rfl ?_
  refine AO.g ?_
  first | (refine G.freezePtr 0 4 rfl rfl ?_) | (refine G.freezePtr 1 4 rfl rfl ?_) | (refine G.freezePtr 2 4 rfl rfl ?_) | (refine G.freezePtr 3 4 rfl rfl ?_) | (refine G.freezePtr 4 4 rfl rfl ?_) | (refine G.freezePtr 5 4 rfl rfl ?_) | (refine G.freezePtr 6 4 rfl rfl ?_) | (refine G.freezePtr 7 4 rfl rfl ?_)
  refine AO.u ?_
  dsimp only [List.eraseIdx]
  refine AO.g ?_
  first | (refine G.freezePtr 0 5 rfl rfl ?_) | (refine G.freezePtr 1 5 rfl rfl ?_) | (refine G.freezePtr 2 5 rfl rfl ?_) | (refine G.freezePtr 3 5 rfl rfl ?_) | (refine G.freezePtr 4 5 rfl rfl ?_) | (refine G.freezePtr 5 5 rfl rfl ?_) | (refine G.freezePtr 6 5 rfl rfl ?_) | (refine G.freezePtr 7 5 rfl rfl ?_)
  refine AO.u ?_
  dsimp only [List.eraseIdx]
  refine AO.op (O.fn rfl rfl) rfl rfl rfl ?_
  refine AO.opRow (O.call rfl Try.func38 rfl rfl rfl (HF)) rfl rfl rfl ?_
  intro V hV
  refine AO.op (O.assign rfl rfl) rfl rfl rfl ?_
  refine AO.nil ?_
  refine AQ.thenN ?_
  refine AW.seq ?_
  refine AW.region ?_
  refine AO.op (O.move rfl rfl) rfl rfl rfl ?_
  refine AO.op (O.move rfl rfl) rfl rfl rfl ?_
  first | (refine AO.op (O.lenR rfl rfl) rfl rfl rfl ?_) | (refine AO.op (O.lenV rfl rfl) rfl rfl rfl ?_) | (refine AO.op (O.lenRow rfl rfl (by repeat (first | exact List.Mem.head _ | refine List.Mem.tail _ ?_))) rfl rfl rfl ?_) | (refine AO.op (O.lenS rfl rfl) rfl rfl rfl ?_)
  refine AO.op (O.move rfl rfl) rfl rfl rfl ?_
  first | (refine AO.op (O.lenR rfl rfl) rfl rfl rfl ?_) | (refine AO.op (O.lenV rfl rfl) rfl rfl rfl ?_) | (refine AO.op (O.lenRow rfl rfl (by repeat (first | exact List.Mem.head _ | refine List.Mem.tail _ ?_))) rfl rfl rfl ?_) | (refine AO.op (O.lenS rfl rfl) rfl rfl rfl ?_)
  refine AO.op (O.lss rfl rfl rfl (by first | exact bTrue (by omega) | exact bFalse (by omega) | assumption | rfl)) rfl rfl rfl ?_
  refine AO.op (O.assign rfl rfl) rfl rfl rfl ?_
  refine AO.op (O.assign rfl rfl) rfl rfl rfl ?_
  refine AO.nil ?_
  refine AQ.thenN ?_
  refine AW.ret ?_
  refine AQ.g ?_
  first | (refine G.freezeRow 0 rfl [6] (by repeat (first | exact frNil | refine frCons rfl ?_)) ?_) | (refine G.freezeRow 1 rfl [6] (by repeat (first | exact frNil | refine frCons rfl ?_)) ?_) | (refine G.freezeRow 2 rfl [6] (by repeat (first | exact frNil | refine frCons rfl ?_)) ?_) | (refine G.freezeRow 3 rfl [6] (by repeat (first | exact frNil | refine frCons rfl ?_)) ?_) | (refine G.freezeRow 4 rfl [6] (by repeat (first | exact frNil | refine frCons rfl ?_)) ?_)
  refine AQ.u ?_
  dsimp only [List.map, List.eraseIdx, List.cons_append, List.nil_append]
  refine AQ.ret2 rfl rfl rfl ⟨_, List.nil_sublist _, .nil⟩ (⟨by simp [roW, cancelW], rfl⟩)

set_option maxHeartbeats 1000000 in
theorem register_fn (ws : List Watch) (hsh : Short ws) (p : Int) (tk ky : List UInt8) (now : Int) (h1 : tk.length ≤ 4294967296) (h2 : ky.length ≤ 4294967296) :
    Sp Try.prog 18 [roW ws, .val (.int .i64 p), roB tk, roB ky, .val (.int .i64 now)] [] (Is (.tup [roW (regW ws p tk ky now).1, .val (.int .i64 (regW ws p tk ky now).2)])) := by
  have HF := filter_fn ws hsh (fun w => !meetsB w.peer w.tok w.key p tk ky) _ [.rp (cellsW p tk ky 0 now) 0] _ Try.func39 rfl rfl (fun p' tk' ky' s' t' => c1_fn _ _ _ _ _ _ _ _ _ _)
  have hle := filter_le (fun w => !meetsB w.peer w.tok w.key p tk ky) hsh
  refine Sp.enter Try.func18 rfl _ Try.ntmps18 rfl (fun w0 R0 => ?_)
  refine AW.seq ?_
  refine AW.region ?_
  refine AO.op (O.assign rfl rfl) rfl rfl rfl ?_
  refine AO.op (O.assign rfl rfl) rfl rfl rfl ?_
  refine AO.nil ?_
  refine AQ.thenN ?_
  refine AW.seq ?_
  refine AW.region ?_
  refine AO.op (O.move rfl rfl) rfl rfl rfl ?_
  refine AO.op (O.move rfl rfl) rfl rfl rfl ?_
  refine AO.op (O.move rfl rfl) rfl rfl rfl ?_
  refine AO.op (O.move rfl rfl) rfl rfl rfl ?_
  refine AO.op (O.build rfl rfl rfl (by rfl)) rfl rfl rfl ?_
  refine AO.opB (O.alloc rfl (by first | (dsimp only [List.set, List.append, List.cons_append, List.nil_append, splice, AV.cells, List.map, List.map_cons, List.map_nil, List.take, List.drop, Nat.zero_add, Nat.add_zero, Nat.reduceAdd, Nat.reduceMul, Nat.zero_mul, Value.cells, List.toList_toArray, zerosA, List.replicate, List.flatten, List.append_nil]; rfl) | (dsimp only [List.set, List.append, List.cons_append, List.nil_append, splice, AV.cells, List.map, List.map_cons, List.map_nil, List.take, List.drop, Nat.zero_add, Nat.add_zero, Nat.reduceAdd, Nat.reduceMul, Nat.zero_mul, Value.cells, List.toList_toArray, zerosA, List.replicate, List.flatten, List.append_nil]; done) | rfl) (by rfl)) rfl rfl rfl ?_
  intro B
  first | (refine AO.store (i := 0) rfl rfl rfl rfl rfl rfl (by first | rfl | (simp [AV.cells, AV.one, *]; done) | simp [AV.cells, AV.one, Value.oneCell', *]) (by rfl) (by rfl) (by first | (dsimp only [List.set, List.append, List.cons_append, List.nil_append, splice, AV.cells, List.map, List.map_cons, List.map_nil, List.take, List.drop, Nat.zero_add, Nat.add_zero, Nat.reduceAdd, Nat.reduceMul, Nat.zero_mul, Value.cells, List.toList_toArray, zerosA, List.replicate, List.flatten, List.append_nil]; rfl) | (dsimp only [List.set, List.append, List.cons_append, List.nil_append, splice, AV.cells, List.map, List.map_cons, List.map_nil, List.take, List.drop, Nat.zero_add, Nat.add_zero, Nat.reduceAdd, Nat.reduceMul, Nat.zero_mul, Value.cells, List.toList_toArray, zerosA, List.replicate, List.flatten, List.append_nil]; done) | rfl) (by first | (dsimp only [List.set, List.append, List.cons_append, List.nil_append, splice, AV.cells, List.map, List.map_cons, List.map_nil, List.take, List.drop, Nat.zero_add, Nat.add_zero, Nat.reduceAdd, Nat.reduceMul, Nat.zero_mul, Value.cells, List.toList_toArray, zerosA, List.replicate, List.flatten, List.append_nil]; rfl) | (dsimp only [List.set, List.append, List.cons_append, List.nil_append, splice, AV.cells, List.map, List.map_cons, List.map_nil, List.take, List.drop, Nat.zero_add, Nat.add_zero, Nat.reduceAdd, Nat.reduceMul, Nat.zero_mul, Value.cells, List.toList_toArray, zerosA, List.replicate, List.flatten, List.append_nil]; done) | rfl) ?_) | (refine AO.store (i := 1) rfl rfl rfl rfl rfl rfl (by first | rfl | (simp [AV.cells, AV.one, *]; done) | simp [AV.cells, AV.one, Value.oneCell', *]) (by rfl) (by rfl) (by first | (dsimp only [List.set, List.append, List.cons_append, List.nil_append, splice, AV.cells, List.map, List.map_cons, List.map_nil, List.take, List.drop, Nat.zero_add, Nat.add_zero, Nat.reduceAdd, Nat.reduceMul, Nat.zero_mul, Value.cells, List.toList_toArray, zerosA, List.replicate, List.flatten, List.append_nil]; rfl) | (dsimp only [List.set, List.append, List.cons_append, List.nil_append, splice, AV.cells, List.map, List.map_cons, List.map_nil, List.take, List.drop, Nat.zero_add, Nat.add_zero, Nat.reduceAdd, Nat.reduceMul, Nat.zero_mul, Value.cells, List.toList_toArray, zerosA, List.replicate, List.flatten, List.append_nil]; done) | rfl) (by first | (dsimp only [List.set, List.append, List.cons_append, List.nil_append, splice, AV.cells, List.map, List.map_cons, List.map_nil, List.take, List.drop, Nat.zero_add, Nat.add_zero, Nat.reduceAdd, Nat.reduceMul, Nat.zero_mul, Value.cells, List.toList_toArray, zerosA, List.replicate, List.flatten, List.append_nil]; rfl) | (dsimp only [List.set, List.append, List.cons_append, List.nil_append, splice, AV.cells, List.map, List.map_cons, List.map_nil, List.take, List.drop, Nat.zero_add, Nat.add_zero, Nat.reduceAdd, Nat.reduceMul, Nat.zero_mul, Value.cells, List.toList_toArray, zerosA, List.replicate, List.flatten, List.append_nil]; done) | rfl) ?_) | (refine AO.store (i := 2) rfl rfl rfl rfl rfl rfl (by first | rfl | (simp [AV.cells, AV.one, *]; done) | simp [AV.cells, AV.one, Value.oneCell', *]) (by rfl) (by rfl) (by first | (dsimp only [List.set, List.append, List.cons_append, List.nil_append, splice, AV.cells, List.map, List.map_cons, List.map_nil, List.take, List.drop, Nat.zero_add, Nat.add_zero, Nat.reduceAdd, Nat.reduceMul, Nat.zero_mul, Value.cells, List.toList_toArray, zerosA, List.replicate, List.flatten, List.append_nil]; rfl) | (dsimp only [List.set, List.append, List.cons_append, List.nil_append, splice, AV.cells, List.map, List.map_cons, List.map_nil, List.take, List.drop, Nat.zero_add, Nat.add_zero, Nat.reduceAdd, Nat.reduceMul, Nat.zero_mul, Value.cells, List.toList_toArray, zerosA, List.replicate, List.flatten, List.append_nil]; done) | rfl) (by first | (dsimp only [List.set, List.append, List.cons_append, List.nil_append, splice, AV.cells, List.map, List.map_cons, List.map_nil, List.take, List.drop, Nat.zero_add, Nat.add_zero, Nat.reduceAdd, Nat.reduceMul, Nat.zero_mul, Value.cells, List.toList_toArray, zerosA, List.replicate, List.flatten, List.append_nil]; rfl) | (dsimp only [List.set, List.append, List.cons_append, List.nil_append, splice, AV.cells, List.map, List.map_cons, List.map_nil, List.take, List.drop, Nat.zero_add, Nat.add_zero, Nat.reduceAdd, Nat.reduceMul, Nat.zero_mul, Value.cells, List.toList_toArray, zerosA, List.replicate, List.flatten, List.append_nil]; done) | rfl) ?_) | (refine AO.store (i := 3) rfl rfl rfl rfl rfl rfl (by first | rfl | (simp [AV.cells, AV.one, *]; done) | simp [AV.cells, AV.one, Value.oneCell', *]) (by rfl) (by rfl) (by first | (dsimp only [List.set, List.append, List.cons_append, List.nil_append, splice, AV.cells, List.map, List.map_cons, List.map_nil, List.take, List.drop, Nat.zero_add, Nat.add_zero, Nat.reduceAdd, Nat.reduceMul, Nat.zero_mul, Value.cells, List.toList_toArray, zerosA, List.replicate, List.flatten, List.append_nil]; rfl) | (dsimp only [List.set, List.append, List.cons_append, List.nil_append, splice, AV.cells, List.map, List.map_cons, List.map_nil, List.take, List.drop, Nat.zero_add, Nat.add_zero, Nat.reduceAdd, Nat.reduceMul, Nat.zero_mul, Value.cells, List.toList_toArray, zerosA, List.replicate, List.flatten, List.append_nil]; done) | rfl) (by first | (dsimp only [List.set, List.append, List.cons_append, List.nil_append, splice, AV.cells, List.map, List.map_cons, List.map_nil, List.take, List.drop, Nat.zero_add, Nat.add_zero, Nat.reduceAdd, Nat.reduceMul, Nat.zero_mul, Value.cells, List.toList_toArray, zerosA, List.replicate, List.flatten, List.append_nil]; rfl) | (dsimp only [List.set, List.append, List.cons_append, List.nil_append, splice, AV.cells, List.map, List.map_cons, List.map_nil, List.take, List.drop, Nat.zero_add, Nat.add_zero, Nat.reduceAdd, Nat.reduceMul, Nat.zero_mul, Value.cells, List.toList_toArray, zerosA, List.replicate, List.flatten, List.append_nil]; done) | rfl) ?_) | (refine AO.store (i := 4) rfl rfl rfl rfl rfl rfl (by first | rfl | (simp [AV.cells, AV.one, *]; done) | simp [AV.cells, AV.one, Value.oneCell', *]) (by rfl) (by rfl) (by first | (dsimp only [List.set, List.append, List.cons_append, List.nil_append, splice, AV.cells, List.map, List.map_cons, List.map_nil, List.take, List.drop, Nat.zero_add, Nat.add_zero, Nat.reduceAdd, Nat.reduceMul, Nat.zero_mul, Value.cells, List.toList_toArray, zerosA, List.replicate, List.flatten, List.append_nil]; rfl) | (dsimp only [List.set, List.append, List.cons_append, List.nil_append, splice, AV.cells, List.map, List.map_cons, List.map_nil, List.take, List.drop, Nat.zero_add, Nat.add_zero, Nat.reduceAdd, Nat.reduceMul, Nat.zero_mul, Value.cells, List.toList_toArray, zerosA, List.replicate, List.flatten, List.append_nil]; done) | rfl) (by first | (dsimp only [List.set, List.append, List.cons_append, List.nil_append, splice, AV.cells, List.map, List.map_cons, List.map_nil, List.take, List.drop, Nat.zero_add, Nat.add_zero, Nat.reduceAdd, Nat.reduceMul, Nat.zero_mul, Value.cells, List.toList_toArray, zerosA, List.replicate, List.flatten, List.append_nil]; rfl) | (dsimp only [List.set, List.append, List.cons_append, List.nil_append, splice, AV.cells, List.map, List.map_cons, List.map_nil, List.take, List.drop, Nat.zero_add, Nat.add_zero, Nat.reduceAdd, Nat.reduceMul, Nat.zero_mul, Value.cells, List.toList_toArray, zerosA, List.replicate, List.flatten, List.append_nil]; done) | rfl) ?_) | (refine AO.store (i := 5) rfl rfl rfl rfl rfl rfl (by first | rfl | (simp [AV.cells, AV.one, *]; done) | simp [AV.cells, AV.one, Value.oneCell', *]) (by rfl) (by rfl) (by first | (dsimp only [List.set, List.append, List.cons_append, List.nil_append, splice, AV.cells, List.map, List.map_cons, List.map_nil, List.take, List.drop, Nat.zero_add, Nat.add_zero, Nat.reduceAdd, Nat.reduceMul, Nat.zero_mul, Value.cells, List.toList_toArray, zerosA, List.replicate, List.flatten, List.append_nil]; rfl) | (dsimp only [List.set, List.append, List.cons_append, List.nil_append, splice, AV.cells, List.map, List.map_cons, List.map_nil, List.take, List.drop, Nat.zero_add, Nat.add_zero, Nat.reduceAdd, Nat.reduceMul, Nat.zero_mul, Value.cells, List.toList_toArray, zerosA, List.replicate, List.flatten, List.append_nil]; done) | rfl) (by first | (dsimp only [List.set, List.append, List.cons_append, List.nil_append, splice, AV.cells, List.map, List.map_cons, List.map_nil, List.take, List.drop, Nat.zero_add, Nat.add_zero, Nat.reduceAdd, Nat.reduceMul, Nat.zero_mul, Value.cells, List.toList_toArray, zerosA, List.replicate, List.flatten, List.append_nil]; rfl) | (dsimp only [List.set, List.append, List.cons_append, List.nil_append, splice, AV.cells, List.map, List.map_cons, List.map_nil, List.take, List.drop, Nat.zero_add, Nat.add_zero, Nat.reduceAdd, Nat.reduceMul, Nat.zero_mul, Value.cells, List.toList_toArray, zerosA, List.replicate, List.flatten, List.append_nil]; done) | rfl) ?_)
  refine AO.nil ?_
  refine AQ.thenN ?_
  refine AW.seq ?_
  refine AW.seq ?_
  refine AW.region ?_
  refine AO.op (O.move rfl rfl) rfl rfl rfl ?_
  refine AO.op (O.call rfl Try.func15 rfl rfl rfl (valid_fn _)) rfl rfl rfl ?_
  refine AO.op (O.not rfl rfl (by first | assumption | rfl)) rfl rfl rfl ?_
  refine AO.op (O.move rfl rfl) rfl rfl rfl ?_
  first | (refine AO.opG rfl rfl rfl (fun hp => O.loadRK rfl rfl (by rfl) (by rfl)) ?_) | (refine AO.opG rfl rfl rfl (fun hp => O.loadK rfl rfl (by repeat (first | exact List.Mem.head _ | refine List.Mem.tail _ ?_)) (by first | (dsimp only [List.set, List.append, List.cons_append, List.nil_append, splice, AV.cells, List.map, List.map_cons, List.map_nil, List.take, List.drop, Nat.zero_add, Nat.add_zero, Nat.reduceAdd, Nat.reduceMul, Nat.zero_mul, Value.cells, List.toList_toArray, zerosA, List.replicate, List.flatten, List.append_nil]; rfl) | (dsimp only [List.set, List.append, List.cons_append, List.nil_append, splice, AV.cells, List.map, List.map_cons, List.map_nil, List.take, List.drop, Nat.zero_add, Nat.add_zero, Nat.reduceAdd, Nat.reduceMul, Nat.zero_mul, Value.cells, List.toList_toArray, zerosA, List.replicate, List.flatten, List.append_nil]; done) | rfl) (by rfl)) ?_) | (refine AO.op (O.loadRK rfl rfl (by rfl) (by rfl)) rfl rfl rfl ?_) | (refine AO.op (O.loadK rfl rfl (by repeat (first | exact List.Mem.head _ | refine List.Mem.tail _ ?_)) (by first | (dsimp only [List.set, List.append, List.cons_append, List.nil_append, splice, AV.cells, List.map, List.map_cons, List.map_nil, List.take, List.drop, Nat.zero_add, Nat.add_zero, Nat.reduceAdd, Nat.reduceMul, Nat.zero_mul, Value.cells, List.toList_toArray, zerosA, List.replicate, List.flatten, List.append_nil]; rfl) | (dsimp only [List.set, List.append, List.cons_append, List.nil_append, splice, AV.cells, List.map, List.map_cons, List.map_nil, List.take, List.drop, Nat.zero_add, Nat.add_zero, Nat.reduceAdd, Nat.reduceMul, Nat.zero_mul, Value.cells, List.toList_toArray, zerosA, List.replicate, List.flatten, List.append_nil]; done) | rfl) (by rfl)) rfl rfl rfl ?_) | (refine AO.no rfl rfl rfl ?_)
  first | (refine AO.opG rfl rfl rfl (fun hp => OpW.force 23 rfl (by first | exact hp | simp_all) (O.call rfl Try.func34 rfl rfl rfl (sound_fn _ _ _ _ _))) ?_) | (refine AO.op (O.call rfl Try.func34 rfl rfl rfl (sound_fn _ _ _ _ _)) rfl rfl rfl ?_) | (refine AO.no rfl rfl rfl ?_)
  first | (refine AO.opG rfl rfl rfl (fun hp => OpW.force 24 rfl (by first | exact hp | simp_all) (O.not rfl rfl (by first | assumption | rfl))) ?_) | (refine AO.op (O.not rfl rfl (by first | assumption | rfl)) rfl rfl rfl ?_) | (refine AO.no rfl rfl rfl ?_)
  first | (refine AO.op (O.pickOr rfl rfl rfl rfl (fun h => by first | exact congrArg (fun b => !b) h | simp_all)) rfl rfl rfl ?_) | (refine AO.op (O.pickT rfl rfl rfl) rfl rfl rfl ?_) | (refine AO.op (O.pickF rfl rfl rfl) rfl rfl rfl ?_)
  refine AO.nil ?_
  refine AQ.thenN ?_
  refine AW.split rfl (fun h => ?_) (fun h => ?_)
  · skip
    have h : (!validW ws || !soundB p tk ky 0 now) = true := h
    refine AW.seq ?_
    refine AW.region ?_
    refine AO.op (O.assign rfl rfl) rfl rfl rfl ?_
    refine AO.op (O.assign rfl rfl) rfl rfl rfl ?_
    refine AO.nil ?_
    refine AQ.thenN ?_
    refine AW.ret ?_
    refine AQ.thenR ?_
    refine AQ.g ?_
    refine G.nilRo 10 rfl ?_
    refine AQ.u ?_
    refine AQ.ret2 rfl rfl rfl ⟨_, List.nil_sublist _, .nil⟩ (⟨by simp only [regW, if_pos h]; rfl, rfl⟩)
  · skip
    have h : ¬ (!validW ws || !soundB p tk ky 0 now) = true := by rw [h]; simp
    refine AW.skip ?_
    refine AQ.thenN ?_
    refine AW.seq ?_
    refine AW.region ?_
    refine AO.op (O.move rfl rfl) rfl rfl rfl ?_
    refine AO.g ?_
    first | (refine G.freezePtr 0 12 rfl rfl ?_) | (refine G.freezePtr 1 12 rfl rfl ?_) | (refine G.freezePtr 2 12 rfl rfl ?_) | (refine G.freezePtr 3 12 rfl rfl ?_) | (refine G.freezePtr 4 12 rfl rfl ?_) | (refine G.freezePtr 5 12 rfl rfl ?_) | (refine G.freezePtr 6 12 rfl rfl ?_) | (refine G.freezePtr 7 12 rfl rfl ?_)
    refine AO.u ?_
    dsimp only [List.eraseIdx]
    refine AO.op (O.fn rfl rfl) rfl rfl rfl ?_
    refine AO.opRow (O.call rfl Try.func38 rfl rfl rfl (HF)) rfl rfl rfl ?_
    intro V hV
    refine AO.op (O.assign rfl rfl) rfl rfl rfl ?_
    refine AO.nil ?_
    refine AQ.thenN ?_
    refine AW.seq ?_
    refine AW.seq ?_
    refine AW.region ?_
    refine AO.op (O.move rfl rfl) rfl rfl rfl ?_
    first | (refine AO.op (O.lenR rfl rfl) rfl rfl rfl ?_) | (refine AO.op (O.lenV rfl rfl) rfl rfl rfl ?_) | (refine AO.op (O.lenRow rfl rfl (by repeat (first | exact List.Mem.head _ | refine List.Mem.tail _ ?_))) rfl rfl rfl ?_) | (refine AO.op (O.lenS rfl rfl) rfl rfl rfl ?_)
    refine AO.op (O.geq rfl rfl rfl (by first | exact bTrue (by omega) | exact bFalse (by omega) | assumption | rfl)) rfl rfl rfl ?_
    refine AO.nil ?_
    refine AQ.thenN ?_
    refine AW.split rfl (fun hf => ?_) (fun hf => ?_)
    · skip
      have hf : 16 ≤ (ws.filter fun w => !meetsB w.peer w.tok w.key p tk ky).length := by have := of_decide_eq_true hf; omega
      refine AW.seq ?_
      refine AW.region ?_
      refine AO.op (O.assign rfl rfl) rfl rfl rfl ?_
      refine AO.op (O.assign rfl rfl) rfl rfl rfl ?_
      refine AO.nil ?_
      refine AQ.thenN ?_
      refine AW.ret ?_
      refine AQ.thenR ?_
      refine AQ.g ?_
      refine G.nilRo 10 rfl ?_
      refine AQ.u ?_
      refine AQ.ret2 rfl rfl rfl ⟨_, List.nil_sublist _, .nil⟩ (⟨by simp only [regW, if_neg h, if_pos hf]; rfl, rfl⟩)
    · skip
      have hf : ¬ 16 ≤ (ws.filter fun w => !meetsB w.peer w.tok w.key p tk ky).length := by have := of_decide_eq_false hf; omega
      refine AW.skip ?_
      refine AQ.thenN ?_
      refine AW.seq ?_
      refine AW.region ?_
      refine AO.op (O.move rfl rfl) rfl rfl rfl ?_
      first | (refine AO.op (O.loadRK rfl rfl (by rfl) (by rfl)) rfl rfl rfl ?_) | (refine AO.op (O.loadK rfl rfl (by repeat (first | exact List.Mem.head _ | refine List.Mem.tail _ ?_)) (by first | (dsimp only [List.set, List.append, List.cons_append, List.nil_append, splice, AV.cells, List.map, List.map_cons, List.map_nil, List.take, List.drop, Nat.zero_add, Nat.add_zero, Nat.reduceAdd, Nat.reduceMul, Nat.zero_mul, Value.cells, List.toList_toArray, zerosA, List.replicate, List.flatten, List.append_nil]; rfl) | (dsimp only [List.set, List.append, List.cons_append, List.nil_append, splice, AV.cells, List.map, List.map_cons, List.map_nil, List.take, List.drop, Nat.zero_add, Nat.add_zero, Nat.reduceAdd, Nat.reduceMul, Nat.zero_mul, Value.cells, List.toList_toArray, zerosA, List.replicate, List.flatten, List.append_nil]; done) | rfl) (by rfl)) rfl rfl rfl ?_)
      refine AO.op (O.call rfl Try.func40 rfl rfl rfl (owned_fn _ _ _ _ _ h1 h2)) rfl rfl rfl ?_
      refine AO.opB (O.buildSlice rfl rfl rfl (by rfl) (by rfl) (by rfl) (by rfl)) rfl rfl rfl ?_
      intro B
      first | (refine AO.append' (i := 0) rfl rfl rfl rfl (by rfl) (by rfl) rfl rfl rfl (by first | exact SrcA.nil TyD.ax | exact SrcA.ro TyD.ax (by first | rfl | simp) (Nat.le_of_ble_eq_true rfl) | exact SrcA.blk TyD.ax (by repeat (first | exact List.Mem.head _ | refine List.Mem.tail _ ?_)) (by first | (dsimp only [List.set, List.append, List.cons_append, List.nil_append, splice, AV.cells, List.map, List.map_cons, List.map_nil, List.take, List.drop, Nat.zero_add, Nat.add_zero, Nat.reduceAdd, Nat.reduceMul, Nat.zero_mul, Value.cells, List.toList_toArray, zerosA, List.replicate, List.flatten, List.append_nil]; rfl) | (dsimp only [List.set, List.append, List.cons_append, List.nil_append, splice, AV.cells, List.map, List.map_cons, List.map_nil, List.take, List.drop, Nat.zero_add, Nat.add_zero, Nat.reduceAdd, Nat.reduceMul, Nat.zero_mul, Value.cells, List.toList_toArray, zerosA, List.replicate, List.flatten, List.append_nil]; done) | rfl) (by first | rfl | simp) | exact SrcA.row TyD.ax (by repeat (first | exact List.Mem.head _ | refine List.Mem.tail _ ?_)) (by first | rfl | simp)) (by first | rfl | (simp [AV.cells, AV.one, *]; done) | simp [AV.cells, AV.one, Value.oneCell', *]) (by unfold maxLen; omega) (by omega) (by first | (dsimp only [List.set, List.append, List.cons_append, List.nil_append, splice, AV.cells, List.map, List.map_cons, List.map_nil, List.take, List.drop, Nat.zero_add, Nat.add_zero, Nat.reduceAdd, Nat.reduceMul, Nat.zero_mul, Value.cells, List.toList_toArray, zerosA, List.replicate, List.flatten, List.append_nil]; rfl) | (dsimp only [List.set, List.append, List.cons_append, List.nil_append, splice, AV.cells, List.map, List.map_cons, List.map_nil, List.take, List.drop, Nat.zero_add, Nat.add_zero, Nat.reduceAdd, Nat.reduceMul, Nat.zero_mul, Value.cells, List.toList_toArray, zerosA, List.replicate, List.flatten, List.append_nil]; done) | rfl) (fun _ => by first | (dsimp only [List.set]; rfl) | (dsimp only [List.set]; done) | rfl) ?_) | (refine AO.append' (i := 1) rfl rfl rfl rfl (by rfl) (by rfl) rfl rfl rfl (by first | exact SrcA.nil TyD.ax | exact SrcA.ro TyD.ax (by first | rfl | simp) (Nat.le_of_ble_eq_true rfl) | exact SrcA.blk TyD.ax (by repeat (first | exact List.Mem.head _ | refine List.Mem.tail _ ?_)) (by first | (dsimp only [List.set, List.append, List.cons_append, List.nil_append, splice, AV.cells, List.map, List.map_cons, List.map_nil, List.take, List.drop, Nat.zero_add, Nat.add_zero, Nat.reduceAdd, Nat.reduceMul, Nat.zero_mul, Value.cells, List.toList_toArray, zerosA, List.replicate, List.flatten, List.append_nil]; rfl) | (dsimp only [List.set, List.append, List.cons_append, List.nil_append, splice, AV.cells, List.map, List.map_cons, List.map_nil, List.take, List.drop, Nat.zero_add, Nat.add_zero, Nat.reduceAdd, Nat.reduceMul, Nat.zero_mul, Value.cells, List.toList_toArray, zerosA, List.replicate, List.flatten, List.append_nil]; done) | rfl) (by first | rfl | simp) | exact SrcA.row TyD.ax (by repeat (first | exact List.Mem.head _ | refine List.Mem.tail _ ?_)) (by first | rfl | simp)) (by first | rfl | (simp [AV.cells, AV.one, *]; done) | simp [AV.cells, AV.one, Value.oneCell', *]) (by unfold maxLen; omega) (by omega) (by first | (dsimp only [List.set, List.append, List.cons_append, List.nil_append, splice, AV.cells, List.map, List.map_cons, List.map_nil, List.take, List.drop, Nat.zero_add, Nat.add_zero, Nat.reduceAdd, Nat.reduceMul, Nat.zero_mul, Value.cells, List.toList_toArray, zerosA, List.replicate, List.flatten, List.append_nil]; rfl) | (dsimp only [List.set, List.append, List.cons_append, List.nil_append, splice, AV.cells, List.map, List.map_cons, List.map_nil, List.take, List.drop, Nat.zero_add, Nat.add_zero, Nat.reduceAdd, Nat.reduceMul, Nat.zero_mul, Value.cells, List.toList_toArray, zerosA, List.replicate, List.flatten, List.append_nil]; done) | rfl) (fun _ => by first | (dsimp only [List.set]; rfl) | (dsimp only [List.set]; done) | rfl) ?_) | (refine AO.append' (i := 2) rfl rfl rfl rfl (by rfl) (by rfl) rfl rfl rfl (by first | exact SrcA.nil TyD.ax | exact SrcA.ro TyD.ax (by first | rfl | simp) (Nat.le_of_ble_eq_true rfl) | exact SrcA.blk TyD.ax (by repeat (first | exact List.Mem.head _ | refine List.Mem.tail _ ?_)) (by first | (dsimp only [List.set, List.append, List.cons_append, List.nil_append, splice, AV.cells, List.map, List.map_cons, List.map_nil, List.take, List.drop, Nat.zero_add, Nat.add_zero, Nat.reduceAdd, Nat.reduceMul, Nat.zero_mul, Value.cells, List.toList_toArray, zerosA, List.replicate, List.flatten, List.append_nil]; rfl) | (dsimp only [List.set, List.append, List.cons_append, List.nil_append, splice, AV.cells, List.map, List.map_cons, List.map_nil, List.take, List.drop, Nat.zero_add, Nat.add_zero, Nat.reduceAdd, Nat.reduceMul, Nat.zero_mul, Value.cells, List.toList_toArray, zerosA, List.replicate, List.flatten, List.append_nil]; done) | rfl) (by first | rfl | simp) | exact SrcA.row TyD.ax (by repeat (first | exact List.Mem.head _ | refine List.Mem.tail _ ?_)) (by first | rfl | simp)) (by first | rfl | (simp [AV.cells, AV.one, *]; done) | simp [AV.cells, AV.one, Value.oneCell', *]) (by unfold maxLen; omega) (by omega) (by first | (dsimp only [List.set, List.append, List.cons_append, List.nil_append, splice, AV.cells, List.map, List.map_cons, List.map_nil, List.take, List.drop, Nat.zero_add, Nat.add_zero, Nat.reduceAdd, Nat.reduceMul, Nat.zero_mul, Value.cells, List.toList_toArray, zerosA, List.replicate, List.flatten, List.append_nil]; rfl) | (dsimp only [List.set, List.append, List.cons_append, List.nil_append, splice, AV.cells, List.map, List.map_cons, List.map_nil, List.take, List.drop, Nat.zero_add, Nat.add_zero, Nat.reduceAdd, Nat.reduceMul, Nat.zero_mul, Value.cells, List.toList_toArray, zerosA, List.replicate, List.flatten, List.append_nil]; done) | rfl) (fun _ => by first | (dsimp only [List.set]; rfl) | (dsimp only [List.set]; done) | rfl) ?_) | (refine AO.append' (i := 3) rfl rfl rfl rfl (by rfl) (by rfl) rfl rfl rfl (by first | exact SrcA.nil TyD.ax | exact SrcA.ro TyD.ax (by first | rfl | simp) (Nat.le_of_ble_eq_true rfl) | exact SrcA.blk TyD.ax (by repeat (first | exact List.Mem.head _ | refine List.Mem.tail _ ?_)) (by first | (dsimp only [List.set, List.append, List.cons_append, List.nil_append, splice, AV.cells, List.map, List.map_cons, List.map_nil, List.take, List.drop, Nat.zero_add, Nat.add_zero, Nat.reduceAdd, Nat.reduceMul, Nat.zero_mul, Value.cells, List.toList_toArray, zerosA, List.replicate, List.flatten, List.append_nil]; rfl) | (dsimp only [List.set, List.append, List.cons_append, List.nil_append, splice, AV.cells, List.map, List.map_cons, List.map_nil, List.take, List.drop, Nat.zero_add, Nat.add_zero, Nat.reduceAdd, Nat.reduceMul, Nat.zero_mul, Value.cells, List.toList_toArray, zerosA, List.replicate, List.flatten, List.append_nil]; done) | rfl) (by first | rfl | simp) | exact SrcA.row TyD.ax (by repeat (first | exact List.Mem.head _ | refine List.Mem.tail _ ?_)) (by first | rfl | simp)) (by first | rfl | (simp [AV.cells, AV.one, *]; done) | simp [AV.cells, AV.one, Value.oneCell', *]) (by unfold maxLen; omega) (by omega) (by first | (dsimp only [List.set, List.append, List.cons_append, List.nil_append, splice, AV.cells, List.map, List.map_cons, List.map_nil, List.take, List.drop, Nat.zero_add, Nat.add_zero, Nat.reduceAdd, Nat.reduceMul, Nat.zero_mul, Value.cells, List.toList_toArray, zerosA, List.replicate, List.flatten, List.append_nil]; rfl) | (dsimp only [List.set, List.append, List.cons_append, List.nil_append, splice, AV.cells, List.map, List.map_cons, List.map_nil, List.take, List.drop, Nat.zero_add, Nat.add_zero, Nat.reduceAdd, Nat.reduceMul, Nat.zero_mul, Value.cells, List.toList_toArray, zerosA, List.replicate, List.flatten, List.append_nil]; done) | rfl) (fun _ => by first | (dsimp only [List.set]; rfl) | (dsimp only [List.set]; done) | rfl) ?_) | (refine AO.append' (i := 4) rfl rfl rfl rfl (by rfl) (by rfl) rfl rfl rfl (by first | exact SrcA.nil TyD.ax | exact SrcA.ro TyD.ax (by first | rfl | simp) (Nat.le_of_ble_eq_true rfl) | exact SrcA.blk TyD.ax (by repeat (first | exact List.Mem.head _ | refine List.Mem.tail _ ?_)) (by first | (dsimp only [List.set, List.append, List.cons_append, List.nil_append, splice, AV.cells, List.map, List.map_cons, List.map_nil, List.take, List.drop, Nat.zero_add, Nat.add_zero, Nat.reduceAdd, Nat.reduceMul, Nat.zero_mul, Value.cells, List.toList_toArray, zerosA, List.replicate, List.flatten, List.append_nil]; rfl) | (dsimp only [List.set, List.append, List.cons_append, List.nil_append, splice, AV.cells, List.map, List.map_cons, List.map_nil, List.take, List.drop, Nat.zero_add, Nat.add_zero, Nat.reduceAdd, Nat.reduceMul, Nat.zero_mul, Value.cells, List.toList_toArray, zerosA, List.replicate, List.flatten, List.append_nil]; done) | rfl) (by first | rfl | simp) | exact SrcA.row TyD.ax (by repeat (first | exact List.Mem.head _ | refine List.Mem.tail _ ?_)) (by first | rfl | simp)) (by first | rfl | (simp [AV.cells, AV.one, *]; done) | simp [AV.cells, AV.one, Value.oneCell', *]) (by unfold maxLen; omega) (by omega) (by first | (dsimp only [List.set, List.append, List.cons_append, List.nil_append, splice, AV.cells, List.map, List.map_cons, List.map_nil, List.take, List.drop, Nat.zero_add, Nat.add_zero, Nat.reduceAdd, Nat.reduceMul, Nat.zero_mul, Value.cells, List.toList_toArray, zerosA, List.replicate, List.flatten, List.append_nil]; rfl) | (dsimp only [List.set, List.append, List.cons_append, List.nil_append, splice, AV.cells, List.map, List.map_cons, List.map_nil, List.take, List.drop, Nat.zero_add, Nat.add_zero, Nat.reduceAdd, Nat.reduceMul, Nat.zero_mul, Value.cells, List.toList_toArray, zerosA, List.replicate, List.flatten, List.append_nil]; done) | rfl) (fun _ => by first | (dsimp only [List.set]; rfl) | (dsimp only [List.set]; done) | rfl) ?_) | (refine AO.append' (i := 5) rfl rfl rfl rfl (by rfl) (by rfl) rfl rfl rfl (by first | exact SrcA.nil TyD.ax | exact SrcA.ro TyD.ax (by first | rfl | simp) (Nat.le_of_ble_eq_true rfl) | exact SrcA.blk TyD.ax (by repeat (first | exact List.Mem.head _ | refine List.Mem.tail _ ?_)) (by first | (dsimp only [List.set, List.append, List.cons_append, List.nil_append, splice, AV.cells, List.map, List.map_cons, List.map_nil, List.take, List.drop, Nat.zero_add, Nat.add_zero, Nat.reduceAdd, Nat.reduceMul, Nat.zero_mul, Value.cells, List.toList_toArray, zerosA, List.replicate, List.flatten, List.append_nil]; rfl) | (dsimp only [List.set, List.append, List.cons_append, List.nil_append, splice, AV.cells, List.map, List.map_cons, List.map_nil, List.take, List.drop, Nat.zero_add, Nat.add_zero, Nat.reduceAdd, Nat.reduceMul, Nat.zero_mul, Value.cells, List.toList_toArray, zerosA, List.replicate, List.flatten, List.append_nil]; done) | rfl) (by first | rfl | simp) | exact SrcA.row TyD.ax (by repeat (first | exact List.Mem.head _ | refine List.Mem.tail _ ?_)) (by first | rfl | simp)) (by first | rfl | (simp [AV.cells, AV.one, *]; done) | simp [AV.cells, AV.one, Value.oneCell', *]) (by unfold maxLen; omega) (by omega) (by first | (dsimp only [List.set, List.append, List.cons_append, List.nil_append, splice, AV.cells, List.map, List.map_cons, List.map_nil, List.take, List.drop, Nat.zero_add, Nat.add_zero, Nat.reduceAdd, Nat.reduceMul, Nat.zero_mul, Value.cells, List.toList_toArray, zerosA, List.replicate, List.flatten, List.append_nil]; rfl) | (dsimp only [List.set, List.append, List.cons_append, List.nil_append, splice, AV.cells, List.map, List.map_cons, List.map_nil, List.take, List.drop, Nat.zero_add, Nat.add_zero, Nat.reduceAdd, Nat.reduceMul, Nat.zero_mul, Value.cells, List.toList_toArray, zerosA, List.replicate, List.flatten, List.append_nil]; done) | rfl) (fun _ => by first | (dsimp only [List.set]; rfl) | (dsimp only [List.set]; done) | rfl) ?_)
      intro V hV
      refine AO.op (O.assign rfl rfl) rfl rfl rfl ?_
      refine AO.op (O.assign rfl rfl) rfl rfl rfl ?_
      refine AO.nil ?_
      refine AQ.thenN ?_
      refine AW.ret ?_
      refine AQ.g ?_
      first | (refine G.freezeRow 0 rfl [10] (by repeat (first | exact frNil | refine frCons rfl ?_)) ?_) | (refine G.freezeRow 1 rfl [10] (by repeat (first | exact frNil | refine frCons rfl ?_)) ?_) | (refine G.freezeRow 2 rfl [10] (by repeat (first | exact frNil | refine frCons rfl ?_)) ?_) | (refine G.freezeRow 3 rfl [10] (by repeat (first | exact frNil | refine frCons rfl ?_)) ?_) | (refine G.freezeRow 4 rfl [10] (by repeat (first | exact frNil | refine frCons rfl ?_)) ?_)
      refine AQ.u ?_
      dsimp only [List.map, List.eraseIdx, List.cons_append, List.nil_append]
      refine AQ.ret2 rfl rfl rfl ⟨_, List.nil_sublist _, .nil⟩ (⟨by simp only [regW, if_neg h, if_neg hf, roW, watchesA_app, List.length_append]; rfl, rfl⟩)
end Go.Proofs.Ytlcoanbdaephiaa.Ob
