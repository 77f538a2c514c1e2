/-
  Layer 19: valid registries.
-/
import Derived.Test.YtlcoanbdaephiaaObB
namespace Go.Proofs.Ytlcoanbdaephiaa.Ob
open Go.RowKit L A
set_option linter.unusedVariables false
set_option linter.unusedSimpArgs false
attribute [local irreducible] AW AQ AO

def soundW (w : Watch) : Bool := soundB w.peer w.tok w.key w.seq w.since
def meetsW (v w : Watch) : Bool := meetsB v.peer v.tok v.key w.peer w.tok w.key
def okAt (ws : List Watch) (i : Nat) : Bool := soundW (wat ws i) && (List.range i).all fun j => !meetsW (wat ws j) (wat ws i)
def okTo (ws : List Watch) (k : Nat) : Bool := (List.range k).all (okAt ws)
def validW (ws : List Watch) : Bool := decide (ws.length ≤ 16) && okTo ws ws.length

theorem okTo_succ (ws : List Watch) (k : Nat) : okTo ws (k + 1) = (okTo ws k && okAt ws k) := by simp [okTo, List.range_succ]
theorem valid_no {ws : List Watch} {k : Nat} (hk : k < ws.length) (h : okAt ws k = false) : validW ws = false := by
  have : okTo ws ws.length = false := by
    unfold okTo
    rw [List.all_eq_false]
    exact ⟨k, List.mem_range.2 hk, by simp [h]⟩
  simp [validW, this]
theorem okAt_no1 {ws : List Watch} {k : Nat} (h : soundW (wat ws k) = false) : okAt ws k = false := by simp [okAt, h]
theorem okAt_no2 {ws : List Watch} {k j : Nat} (hj : j < k) (h : meetsW (wat ws j) (wat ws k) = true) : okAt ws k = false := by
  have : ((List.range k).all fun j => !meetsW (wat ws j) (wat ws k)) = false := by
    rw [List.all_eq_false]
    exact ⟨j, List.mem_range.2 hj, by simp [h]⟩
  simp [okAt, this]
theorem okAt_yes {ws : List Watch} {k : Nat} (h : soundW (wat ws k) = true) (h2 : ∀ j, j < k → meetsW (wat ws j) (wat ws k) = false) : okAt ws k = true := by
  simp only [okAt, h, Bool.true_and, List.all_eq_true, List.mem_range]
  intro j hj; simp [h2 j hj]

set_option maxHeartbeats 1000000 in
theorem valid_fn (ws : List Watch) : Sp Try.prog 15 [roW ws] [] (Is (.val (.bool (validW ws)))) := by
  refine Sp.enter Try.func15 rfl _ Try.ntmps15 rfl (fun w0 R0 => ?_)
  refine AW.seq ?_
  refine AW.region ?_
  refine AO.op (O.assign rfl rfl) rfl rfl rfl ?_
  refine AO.nil ?_
  refine AQ.thenN ?_
  refine AW.seq ?_
  refine AW.seq ?_
  refine AW.region ?_
  refine AO.op (O.move rfl rfl) rfl rfl rfl ?_
  first | (refine AO.op (O.lenR rfl rfl) rfl rfl rfl ?_) | (refine AO.op (O.lenV rfl rfl) rfl rfl rfl ?_) | (refine AO.op (O.lenRow rfl rfl (by repeat (first | exact List.Mem.head _ | refine List.Mem.tail _ ?_))) rfl rfl rfl ?_) | (refine AO.op (O.lenS rfl rfl) rfl rfl rfl ?_)
  refine AO.op (O.gtr rfl rfl rfl (by first | exact bTrue (by omega) | exact bFalse (by omega) | assumption | rfl)) rfl rfl rfl ?_
  refine AO.nil ?_
  refine AQ.thenN ?_
  refine AW.split rfl (fun h => ?_) (fun h => ?_)
  · skip
    refine AW.seq ?_
    refine AW.region ?_
    refine AO.op (O.assign rfl rfl) rfl rfl rfl ?_
    refine AO.nil ?_
    refine AQ.thenN ?_
    refine AW.ret ?_
    refine AQ.thenR ?_
    refine AQ.ret1 rfl rfl ⟨_, List.nil_sublist _, .nil⟩ (⟨by simp at h; simp [ofConst, validW, show ¬ ws.length ≤ 16 by omega], rfl⟩)
  · skip
    have hlen : ws.length ≤ 16 := by simp at h; omega
    refine AW.skip ?_
    refine AQ.thenN ?_
    refine AW.seq ?_
    refine AW.seq ?_
    refine AW.region ?_
    refine AO.op (O.move rfl rfl) rfl rfl rfl ?_
    first | (refine AO.op (O.lenR rfl rfl) rfl rfl rfl ?_) | (refine AO.op (O.lenV rfl rfl) rfl rfl rfl ?_) | (refine AO.op (O.lenRow rfl rfl (by repeat (first | exact List.Mem.head _ | refine List.Mem.tail _ ?_))) rfl rfl rfl ?_) | (refine AO.op (O.lenS rfl rfl) rfl rfl rfl ?_)
    refine AO.op (O.move rfl rfl) rfl rfl rfl ?_
    refine AO.nil ?_
    refine AQ.thenN ?_
    refine AW.block ?_
    refine AW.loop (fun n E H => ∃ k : Nat, k ≤ ws.length ∧ n = ws.length - k ∧ okTo ws k = true ∧ E = [(0, roW ws), (10, roW ws), (11, .val (.int .i64 (ws.length : Int))), (12, .val (.int .i64 (k : Int)))] ∧ H = []) (ws.length) (⟨0, by omega, rfl, rfl, rfl, rfl⟩) (by repeat (first | exact envNil | refine envCons rfl ?_)) ⟨_, by repeat (first | exact List.Sublist.slnil | refine List.Sublist.cons_cons _ ?_ | refine List.Sublist.cons _ ?_), List.Perm.refl _⟩ ?_
    rintro n E H ⟨k, hk, rfl, hok, rfl, rfl⟩
    refine AW.seq ?_
    refine AW.region ?_
    refine AO.op (O.lss rfl rfl rfl (by first | exact bTrue (by omega) | exact bFalse (by omega) | assumption | rfl)) rfl rfl rfl ?_
    refine AO.nil ?_
    refine AQ.thenN ?_
    refine AW.seq ?_
    refine AW.split rfl (fun hlt => ?_) (fun hlt => ?_)
    · skip
      have hlt : k < ws.length := by simpa using hlt
      refine AW.skip ?_
      refine AQ.thenN ?_
      refine AW.seq ?_
      refine AW.block ?_
      refine AW.seq ?_
      refine AW.region ?_
      refine AO.op (O.move rfl rfl) rfl rfl rfl ?_
      first | (refine AO.op (O.idxR rfl rfl rfl ⟨by omega, by omega⟩) rfl rfl rfl ?_) | (refine AO.op (O.idxV rfl rfl rfl ⟨by omega, by omega⟩) rfl rfl rfl ?_)
      first | (refine AO.op (O.loadRK rfl rfl (by first | exact getW (by assumption) | exact getWT (by assumption) (by omega) | (dsimp only [List.take, List.drop]; rfl)) (by rfl)) rfl rfl rfl ?_) | (refine AO.op (O.loadK rfl rfl (by repeat (first | exact List.Mem.head _ | refine List.Mem.tail _ ?_)) (by first | (dsimp only [List.set, List.append, List.cons_append, List.nil_append, splice, AV.cells, List.map, List.map_cons, List.map_nil, List.take, List.drop, Nat.zero_add, Nat.add_zero, Nat.reduceAdd, Nat.reduceMul, Nat.zero_mul, Value.cells, List.toList_toArray, zerosA, List.replicate, List.flatten, List.append_nil]; rfl) | (dsimp only [List.set, List.append, List.cons_append, List.nil_append, splice, AV.cells, List.map, List.map_cons, List.map_nil, List.take, List.drop, Nat.zero_add, Nat.add_zero, Nat.reduceAdd, Nat.reduceMul, Nat.zero_mul, Value.cells, List.toList_toArray, zerosA, List.replicate, List.flatten, List.append_nil]; done) | rfl) (by rfl)) rfl rfl rfl ?_)
      refine AO.opB (O.alloc rfl (by first | (dsimp only [List.set, List.append, List.cons_append, List.nil_append, splice, AV.cells, List.map, List.map_cons, List.map_nil, List.take, List.drop, Nat.zero_add, Nat.add_zero, Nat.reduceAdd, Nat.reduceMul, Nat.zero_mul, Value.cells, List.toList_toArray, zerosA, List.replicate, List.flatten, List.append_nil]; rfl) | (dsimp only [List.set, List.append, List.cons_append, List.nil_append, splice, AV.cells, List.map, List.map_cons, List.map_nil, List.take, List.drop, Nat.zero_add, Nat.add_zero, Nat.reduceAdd, Nat.reduceMul, Nat.zero_mul, Value.cells, List.toList_toArray, zerosA, List.replicate, List.flatten, List.append_nil]; done) | rfl) (by rfl)) rfl rfl rfl ?_
      intro B
      refine AO.op (O.assign rfl rfl) rfl rfl rfl ?_
      first | (refine AO.store (i := 0) rfl rfl rfl rfl rfl rfl (by first | rfl | (simp [AV.cells, AV.one, *]; done) | simp [AV.cells, AV.one, Value.oneCell', *]) (by rfl) (by rfl) (by first | (dsimp only [List.set, List.append, List.cons_append, List.nil_append, splice, AV.cells, List.map, List.map_cons, List.map_nil, List.take, List.drop, Nat.zero_add, Nat.add_zero, Nat.reduceAdd, Nat.reduceMul, Nat.zero_mul, Value.cells, List.toList_toArray, zerosA, List.replicate, List.flatten, List.append_nil]; rfl) | (dsimp only [List.set, List.append, List.cons_append, List.nil_append, splice, AV.cells, List.map, List.map_cons, List.map_nil, List.take, List.drop, Nat.zero_add, Nat.add_zero, Nat.reduceAdd, Nat.reduceMul, Nat.zero_mul, Value.cells, List.toList_toArray, zerosA, List.replicate, List.flatten, List.append_nil]; done) | rfl) (by first | (dsimp only [List.set, List.append, List.cons_append, List.nil_append, splice, AV.cells, List.map, List.map_cons, List.map_nil, List.take, List.drop, Nat.zero_add, Nat.add_zero, Nat.reduceAdd, Nat.reduceMul, Nat.zero_mul, Value.cells, List.toList_toArray, zerosA, List.replicate, List.flatten, List.append_nil]; rfl) | (dsimp only [List.set, List.append, List.cons_append, List.nil_append, splice, AV.cells, List.map, List.map_cons, List.map_nil, List.take, List.drop, Nat.zero_add, Nat.add_zero, Nat.reduceAdd, Nat.reduceMul, Nat.zero_mul, Value.cells, List.toList_toArray, zerosA, List.replicate, List.flatten, List.append_nil]; done) | rfl) ?_) | (refine AO.store (i := 1) rfl rfl rfl rfl rfl rfl (by first | rfl | (simp [AV.cells, AV.one, *]; done) | simp [AV.cells, AV.one, Value.oneCell', *]) (by rfl) (by rfl) (by first | (dsimp only [List.set, List.append, List.cons_append, List.nil_append, splice, AV.cells, List.map, List.map_cons, List.map_nil, List.take, List.drop, Nat.zero_add, Nat.add_zero, Nat.reduceAdd, Nat.reduceMul, Nat.zero_mul, Value.cells, List.toList_toArray, zerosA, List.replicate, List.flatten, List.append_nil]; rfl) | (dsimp only [List.set, List.append, List.cons_append, List.nil_append, splice, AV.cells, List.map, List.map_cons, List.map_nil, List.take, List.drop, Nat.zero_add, Nat.add_zero, Nat.reduceAdd, Nat.reduceMul, Nat.zero_mul, Value.cells, List.toList_toArray, zerosA, List.replicate, List.flatten, List.append_nil]; done) | rfl) (by first | (dsimp only [List.set, List.append, List.cons_append, List.nil_append, splice, AV.cells, List.map, List.map_cons, List.map_nil, List.take, List.drop, Nat.zero_add, Nat.add_zero, Nat.reduceAdd, Nat.reduceMul, Nat.zero_mul, Value.cells, List.toList_toArray, zerosA, List.replicate, List.flatten, List.append_nil]; rfl) | (dsimp only [List.set, List.append, List.cons_append, List.nil_append, splice, AV.cells, List.map, List.map_cons, List.map_nil, List.take, List.drop, Nat.zero_add, Nat.add_zero, Nat.reduceAdd, Nat.reduceMul, Nat.zero_mul, Value.cells, List.toList_toArray, zerosA, List.replicate, List.flatten, List.append_nil]; done) | rfl) ?_) | (refine AO.store (i := 2) rfl rfl rfl rfl rfl rfl (by first | rfl | (simp [AV.cells, AV.one, *]; done) | simp [AV.cells, AV.one, Value.oneCell', *]) (by rfl) (by rfl) (by first | (dsimp only [List.set, List.append, List.cons_append, List.nil_append, splice, AV.cells, List.map, List.map_cons, List.map_nil, List.take, List.drop, Nat.zero_add, Nat.add_zero, Nat.reduceAdd, Nat.reduceMul, Nat.zero_mul, Value.cells, List.toList_toArray, zerosA, List.replicate, List.flatten, List.append_nil]; rfl) | (dsimp only [List.set, List.append, List.cons_append, List.nil_append, splice, AV.cells, List.map, List.map_cons, List.map_nil, List.take, List.drop, Nat.zero_add, Nat.add_zero, Nat.reduceAdd, Nat.reduceMul, Nat.zero_mul, Value.cells, List.toList_toArray, zerosA, List.replicate, List.flatten, List.append_nil]; done) | rfl) (by first | (dsimp only [List.set, List.append, List.cons_append, List.nil_append, splice, AV.cells, List.map, List.map_cons, List.map_nil, List.take, List.drop, Nat.zero_add, Nat.add_zero, Nat.reduceAdd, Nat.reduceMul, Nat.zero_mul, Value.cells, List.toList_toArray, zerosA, List.replicate, List.flatten, List.append_nil]; rfl) | (dsimp only [List.set, List.append, List.cons_append, List.nil_append, splice, AV.cells, List.map, List.map_cons, List.map_nil, List.take, List.drop, Nat.zero_add, Nat.add_zero, Nat.reduceAdd, Nat.reduceMul, Nat.zero_mul, Value.cells, List.toList_toArray, zerosA, List.replicate, List.flatten, List.append_nil]; done) | rfl) ?_) | (refine AO.store (i := 3) rfl rfl rfl rfl rfl rfl (by first | rfl | (simp [AV.cells, AV.one, *]; done) | simp [AV.cells, AV.one, Value.oneCell', *]) (by rfl) (by rfl) (by first | (dsimp only [List.set, List.append, List.cons_append, List.nil_append, splice, AV.cells, List.map, List.map_cons, List.map_nil, List.take, List.drop, Nat.zero_add, Nat.add_zero, Nat.reduceAdd, Nat.reduceMul, Nat.zero_mul, Value.cells, List.toList_toArray, zerosA, List.replicate, List.flatten, List.append_nil]; rfl) | (dsimp only [List.set, List.append, List.cons_append, List.nil_append, splice, AV.cells, List.map, List.map_cons, List.map_nil, List.take, List.drop, Nat.zero_add, Nat.add_zero, Nat.reduceAdd, Nat.reduceMul, Nat.zero_mul, Value.cells, List.toList_toArray, zerosA, List.replicate, List.flatten, List.append_nil]; done) | rfl) (by first | (dsimp only [List.set, List.append, List.cons_append, List.nil_append, splice, AV.cells, List.map, List.map_cons, List.map_nil, List.take, List.drop, Nat.zero_add, Nat.add_zero, Nat.reduceAdd, Nat.reduceMul, Nat.zero_mul, Value.cells, List.toList_toArray, zerosA, List.replicate, List.flatten, List.append_nil]; rfl) | (dsimp only [List.set, List.append, List.cons_append, List.nil_append, splice, AV.cells, List.map, List.map_cons, List.map_nil, List.take, List.drop, Nat.zero_add, Nat.add_zero, Nat.reduceAdd, Nat.reduceMul, Nat.zero_mul, Value.cells, List.toList_toArray, zerosA, List.replicate, List.flatten, List.append_nil]; done) | rfl) ?_) | (refine AO.store (i := 4) rfl rfl rfl rfl rfl rfl (by first | rfl | (simp [AV.cells, AV.one, *]; done) | simp [AV.cells, AV.one, Value.oneCell', *]) (by rfl) (by rfl) (by first | (dsimp only [List.set, List.append, List.cons_append, List.nil_append, splice, AV.cells, List.map, List.map_cons, List.map_nil, List.take, List.drop, Nat.zero_add, Nat.add_zero, Nat.reduceAdd, Nat.reduceMul, Nat.zero_mul, Value.cells, List.toList_toArray, zerosA, List.replicate, List.flatten, List.append_nil]; rfl) | (dsimp only [List.set, List.append, List.cons_append, List.nil_append, splice, AV.cells, List.map, List.map_cons, List.map_nil, List.take, List.drop, Nat.zero_add, Nat.add_zero, Nat.reduceAdd, Nat.reduceMul, Nat.zero_mul, Value.cells, List.toList_toArray, zerosA, List.replicate, List.flatten, List.append_nil]; done) | rfl) (by first | (dsimp only [List.set, List.append, List.cons_append, List.nil_append, splice, AV.cells, List.map, List.map_cons, List.map_nil, List.take, List.drop, Nat.zero_add, Nat.add_zero, Nat.reduceAdd, Nat.reduceMul, Nat.zero_mul, Value.cells, List.toList_toArray, zerosA, List.replicate, List.flatten, List.append_nil]; rfl) | (dsimp only [List.set, List.append, List.cons_append, List.nil_append, splice, AV.cells, List.map, List.map_cons, List.map_nil, List.take, List.drop, Nat.zero_add, Nat.add_zero, Nat.reduceAdd, Nat.reduceMul, Nat.zero_mul, Value.cells, List.toList_toArray, zerosA, List.replicate, List.flatten, List.append_nil]; done) | rfl) ?_) | (refine AO.store (i := 5) rfl rfl rfl rfl rfl rfl (by first | rfl | (simp [AV.cells, AV.one, *]; done) | simp [AV.cells, AV.one, Value.oneCell', *]) (by rfl) (by rfl) (by first | (dsimp only [List.set, List.append, List.cons_append, List.nil_append, splice, AV.cells, List.map, List.map_cons, List.map_nil, List.take, List.drop, Nat.zero_add, Nat.add_zero, Nat.reduceAdd, Nat.reduceMul, Nat.zero_mul, Value.cells, List.toList_toArray, zerosA, List.replicate, List.flatten, List.append_nil]; rfl) | (dsimp only [List.set, List.append, List.cons_append, List.nil_append, splice, AV.cells, List.map, List.map_cons, List.map_nil, List.take, List.drop, Nat.zero_add, Nat.add_zero, Nat.reduceAdd, Nat.reduceMul, Nat.zero_mul, Value.cells, List.toList_toArray, zerosA, List.replicate, List.flatten, List.append_nil]; done) | rfl) (by first | (dsimp only [List.set, List.append, List.cons_append, List.nil_append, splice, AV.cells, List.map, List.map_cons, List.map_nil, List.take, List.drop, Nat.zero_add, Nat.add_zero, Nat.reduceAdd, Nat.reduceMul, Nat.zero_mul, Value.cells, List.toList_toArray, zerosA, List.replicate, List.flatten, List.append_nil]; rfl) | (dsimp only [List.set, List.append, List.cons_append, List.nil_append, splice, AV.cells, List.map, List.map_cons, List.map_nil, List.take, List.drop, Nat.zero_add, Nat.add_zero, Nat.reduceAdd, Nat.reduceMul, Nat.zero_mul, Value.cells, List.toList_toArray, zerosA, List.replicate, List.flatten, List.append_nil]; done) | rfl) ?_)
      refine AO.nil ?_
      refine AQ.thenN ?_
      refine AW.seq ?_
      refine AW.seq ?_
      refine AW.region ?_
      first | (refine AO.op (O.loadRK rfl rfl (by first | exact getW (by assumption) | exact getWT (by assumption) (by omega) | (dsimp only [List.take, List.drop]; rfl)) (by rfl)) rfl rfl rfl ?_) | (refine AO.op (O.loadK rfl rfl (by repeat (first | exact List.Mem.head _ | refine List.Mem.tail _ ?_)) (by first | (dsimp only [List.set, List.append, List.cons_append, List.nil_append, splice, AV.cells, List.map, List.map_cons, List.map_nil, List.take, List.drop, Nat.zero_add, Nat.add_zero, Nat.reduceAdd, Nat.reduceMul, Nat.zero_mul, Value.cells, List.toList_toArray, zerosA, List.replicate, List.flatten, List.append_nil]; rfl) | (dsimp only [List.set, List.append, List.cons_append, List.nil_append, splice, AV.cells, List.map, List.map_cons, List.map_nil, List.take, List.drop, Nat.zero_add, Nat.add_zero, Nat.reduceAdd, Nat.reduceMul, Nat.zero_mul, Value.cells, List.toList_toArray, zerosA, List.replicate, List.flatten, List.append_nil]; done) | rfl) (by rfl)) rfl rfl rfl ?_)
      refine AO.op (O.call rfl Try.func34 rfl rfl rfl (sound_fn _ _ _ _ _)) rfl rfl rfl ?_
      refine AO.op (O.not rfl rfl (by first | assumption | rfl)) rfl rfl rfl ?_
      refine AO.nil ?_
      refine AQ.thenN ?_
      refine AW.split rfl (fun hs => ?_) (fun hs => ?_)
      · skip
        have hs : soundW (wat ws k) = false := by simpa [soundW] using hs
        refine AW.seq ?_
        refine AW.region ?_
        refine AO.op (O.assign rfl rfl) rfl rfl rfl ?_
        refine AO.nil ?_
        refine AQ.thenN ?_
        refine AW.ret ?_
        refine AQ.thenR ?_
        refine AQ.blockR ?_
        refine AQ.thenR ?_
        refine AQ.loopR ?_
        refine AQ.blockR ?_
        refine AQ.thenR ?_
        refine AQ.ret1 rfl rfl ⟨_, List.nil_sublist _, .nil⟩ (⟨by rw [valid_no hlt (okAt_no1 hs)]; rfl, rfl⟩)
      · skip
        have hs : soundW (wat ws k) = true := by simpa [soundW] using hs
        refine AW.skip ?_
        refine AQ.thenN ?_
        refine AW.seq ?_
        refine AW.region ?_
        refine AO.op (O.move rfl rfl) rfl rfl rfl ?_
        refine AO.op (O.move rfl rfl) rfl rfl rfl ?_
        refine AO.op (O.sliceTo rfl rfl rfl (by first | rfl | omega) (by omega) (by first | exact getWK | rfl)) rfl rfl rfl ?_
        first | (refine AO.op (O.lenR rfl rfl) rfl rfl rfl ?_) | (refine AO.op (O.lenV rfl rfl) rfl rfl rfl ?_) | (refine AO.op (O.lenRow rfl rfl (by repeat (first | exact List.Mem.head _ | refine List.Mem.tail _ ?_))) rfl rfl rfl ?_) | (refine AO.op (O.lenS rfl rfl) rfl rfl rfl ?_)
        refine AO.op (O.move rfl rfl) rfl rfl rfl ?_
        refine AO.nil ?_
        refine AQ.thenN ?_
        refine AW.block ?_
        refine AW.loop (fun n E H => ∃ j : Nat, j ≤ k ∧ n = k - j ∧ (∀ i, i < j → meetsW (wat ws i) (wat ws k) = false) ∧ E = [(0, roW ws), (4, .val (.pointer (some ⟨B, 0, none⟩))), (10, roW ws), (11, .val (.int .i64 (ws.length : Int))), (12, .val (.int .i64 (k : Int))), (22, .ro false k (watchesA (ws.take k))), (23, .val (.int .i64 (k : Int))), (24, .val (.int .i64 (j : Int)))] ∧ H = [.blk B 58 5 (wat ws k).cells]) (k) (⟨0, by omega, rfl, fun i hi => by omega, rfl, rfl⟩) (by repeat (first | exact envNil | refine envCons rfl ?_)) ⟨_, by repeat (first | exact List.Sublist.slnil | refine List.Sublist.cons_cons _ ?_ | refine List.Sublist.cons _ ?_), List.Perm.refl _⟩ ?_
        rintro n E H ⟨j, hj, rfl, hno, rfl, rfl⟩
        refine AW.seq ?_
        refine AW.region ?_
        refine AO.op (O.lss rfl rfl rfl (by first | exact bTrue (by omega) | exact bFalse (by omega) | assumption | rfl)) rfl rfl rfl ?_
        refine AO.nil ?_
        refine AQ.thenN ?_
        refine AW.seq ?_
        refine AW.split rfl (fun hjk => ?_) (fun hjk => ?_)
        · skip
          have hjk : j < k := by simpa using hjk
          refine AW.skip ?_
          refine AQ.thenN ?_
          refine AW.seq ?_
          refine AW.block ?_
          refine AW.seq ?_
          refine AW.region ?_
          first | (refine AO.op (O.idxR rfl rfl rfl ⟨by omega, by omega⟩) rfl rfl rfl ?_) | (refine AO.op (O.idxV rfl rfl rfl ⟨by omega, by omega⟩) rfl rfl rfl ?_)
          first | (refine AO.op (O.loadRK rfl rfl (by first | exact getW (by assumption) | exact getWT (by assumption) (by omega) | (dsimp only [List.take, List.drop]; rfl)) (by rfl)) rfl rfl rfl ?_) | (refine AO.op (O.loadK rfl rfl (by repeat (first | exact List.Mem.head _ | refine List.Mem.tail _ ?_)) (by first | (dsimp only [List.set, List.append, List.cons_append, List.nil_append, splice, AV.cells, List.map, List.map_cons, List.map_nil, List.take, List.drop, Nat.zero_add, Nat.add_zero, Nat.reduceAdd, Nat.reduceMul, Nat.zero_mul, Value.cells, List.toList_toArray, zerosA, List.replicate, List.flatten, List.append_nil]; rfl) | (dsimp only [List.set, List.append, List.cons_append, List.nil_append, splice, AV.cells, List.map, List.map_cons, List.map_nil, List.take, List.drop, Nat.zero_add, Nat.add_zero, Nat.reduceAdd, Nat.reduceMul, Nat.zero_mul, Value.cells, List.toList_toArray, zerosA, List.replicate, List.flatten, List.append_nil]; done) | rfl) (by rfl)) rfl rfl rfl ?_)
          refine AO.opB (O.alloc rfl (by first | (dsimp only [List.set, List.append, List.cons_append, List.nil_append, splice, AV.cells, List.map, List.map_cons, List.map_nil, List.take, List.drop, Nat.zero_add, Nat.add_zero, Nat.reduceAdd, Nat.reduceMul, Nat.zero_mul, Value.cells, List.toList_toArray, zerosA, List.replicate, List.flatten, List.append_nil]; rfl) | (dsimp only [List.set, List.append, List.cons_append, List.nil_append, splice, AV.cells, List.map, List.map_cons, List.map_nil, List.take, List.drop, Nat.zero_add, Nat.add_zero, Nat.reduceAdd, Nat.reduceMul, Nat.zero_mul, Value.cells, List.toList_toArray, zerosA, List.replicate, List.flatten, List.append_nil]; done) | rfl) (by rfl)) rfl rfl rfl ?_
          intro B
          first | (refine AO.store (i := 0) rfl rfl rfl rfl rfl rfl (by first | rfl | (simp [AV.cells, AV.one, *]; done) | simp [AV.cells, AV.one, Value.oneCell', *]) (by rfl) (by rfl) (by first | (dsimp only [List.set, List.append, List.cons_append, List.nil_append, splice, AV.cells, List.map, List.map_cons, List.map_nil, List.take, List.drop, Nat.zero_add, Nat.add_zero, Nat.reduceAdd, Nat.reduceMul, Nat.zero_mul, Value.cells, List.toList_toArray, zerosA, List.replicate, List.flatten, List.append_nil]; rfl) | (dsimp only [List.set, List.append, List.cons_append, List.nil_append, splice, AV.cells, List.map, List.map_cons, List.map_nil, List.take, List.drop, Nat.zero_add, Nat.add_zero, Nat.reduceAdd, Nat.reduceMul, Nat.zero_mul, Value.cells, List.toList_toArray, zerosA, List.replicate, List.flatten, List.append_nil]; done) | rfl) (by first | (dsimp only [List.set, List.append, List.cons_append, List.nil_append, splice, AV.cells, List.map, List.map_cons, List.map_nil, List.take, List.drop, Nat.zero_add, Nat.add_zero, Nat.reduceAdd, Nat.reduceMul, Nat.zero_mul, Value.cells, List.toList_toArray, zerosA, List.replicate, List.flatten, List.append_nil]; rfl) | (dsimp only [List.set, List.append, List.cons_append, List.nil_append, splice, AV.cells, List.map, List.map_cons, List.map_nil, List.take, List.drop, Nat.zero_add, Nat.add_zero, Nat.reduceAdd, Nat.reduceMul, Nat.zero_mul, Value.cells, List.toList_toArray, zerosA, List.replicate, List.flatten, List.append_nil]; done) | rfl) ?_) | (refine AO.store (i := 1) rfl rfl rfl rfl rfl rfl (by first | rfl | (simp [AV.cells, AV.one, *]; done) | simp [AV.cells, AV.one, Value.oneCell', *]) (by rfl) (by rfl) (by first | (dsimp only [List.set, List.append, List.cons_append, List.nil_append, splice, AV.cells, List.map, List.map_cons, List.map_nil, List.take, List.drop, Nat.zero_add, Nat.add_zero, Nat.reduceAdd, Nat.reduceMul, Nat.zero_mul, Value.cells, List.toList_toArray, zerosA, List.replicate, List.flatten, List.append_nil]; rfl) | (dsimp only [List.set, List.append, List.cons_append, List.nil_append, splice, AV.cells, List.map, List.map_cons, List.map_nil, List.take, List.drop, Nat.zero_add, Nat.add_zero, Nat.reduceAdd, Nat.reduceMul, Nat.zero_mul, Value.cells, List.toList_toArray, zerosA, List.replicate, List.flatten, List.append_nil]; done) | rfl) (by first | (dsimp only [List.set, List.append, List.cons_append, List.nil_append, splice, AV.cells, List.map, List.map_cons, List.map_nil, List.take, List.drop, Nat.zero_add, Nat.add_zero, Nat.reduceAdd, Nat.reduceMul, Nat.zero_mul, Value.cells, List.toList_toArray, zerosA, List.replicate, List.flatten, List.append_nil]; rfl) | (dsimp only [List.set, List.append, List.cons_append, List.nil_append, splice, AV.cells, List.map, List.map_cons, List.map_nil, List.take, List.drop, Nat.zero_add, Nat.add_zero, Nat.reduceAdd, Nat.reduceMul, Nat.zero_mul, Value.cells, List.toList_toArray, zerosA, List.replicate, List.flatten, List.append_nil]; done) | rfl) ?_) | (refine AO.store (i := 2) rfl rfl rfl rfl rfl rfl (by first | rfl | (simp [AV.cells, AV.one, *]; done) | simp [AV.cells, AV.one, Value.oneCell', *]) (by rfl) (by rfl) (by first | (dsimp only [List.set, List.append, List.cons_append, List.nil_append, splice, AV.cells, List.map, List.map_cons, List.map_nil, List.take, List.drop, Nat.zero_add, Nat.add_zero, Nat.reduceAdd, Nat.reduceMul, Nat.zero_mul, Value.cells, List.toList_toArray, zerosA, List.replicate, List.flatten, List.append_nil]; rfl) | (dsimp only [List.set, List.append, List.cons_append, List.nil_append, splice, AV.cells, List.map, List.map_cons, List.map_nil, List.take, List.drop, Nat.zero_add, Nat.add_zero, Nat.reduceAdd, Nat.reduceMul, Nat.zero_mul, Value.cells, List.toList_toArray, zerosA, List.replicate, List.flatten, List.append_nil]; done) | rfl) (by first | (dsimp only [List.set, List.append, List.cons_append, List.nil_append, splice, AV.cells, List.map, List.map_cons, List.map_nil, List.take, List.drop, Nat.zero_add, Nat.add_zero, Nat.reduceAdd, Nat.reduceMul, Nat.zero_mul, Value.cells, List.toList_toArray, zerosA, List.replicate, List.flatten, List.append_nil]; rfl) | (dsimp only [List.set, List.append, List.cons_append, List.nil_append, splice, AV.cells, List.map, List.map_cons, List.map_nil, List.take, List.drop, Nat.zero_add, Nat.add_zero, Nat.reduceAdd, Nat.reduceMul, Nat.zero_mul, Value.cells, List.toList_toArray, zerosA, List.replicate, List.flatten, List.append_nil]; done) | rfl) ?_) | (refine AO.store (i := 3) rfl rfl rfl rfl rfl rfl (by first | rfl | (simp [AV.cells, AV.one, *]; done) | simp [AV.cells, AV.one, Value.oneCell', *]) (by rfl) (by rfl) (by first | (dsimp only [List.set, List.append, List.cons_append, List.nil_append, splice, AV.cells, List.map, List.map_cons, List.map_nil, List.take, List.drop, Nat.zero_add, Nat.add_zero, Nat.reduceAdd, Nat.reduceMul, Nat.zero_mul, Value.cells, List.toList_toArray, zerosA, List.replicate, List.flatten, List.append_nil]; rfl) | (dsimp only [List.set, List.append, List.cons_append, List.nil_append, splice, AV.cells, List.map, List.map_cons, List.map_nil, List.take, List.drop, Nat.zero_add, Nat.add_zero, Nat.reduceAdd, Nat.reduceMul, Nat.zero_mul, Value.cells, List.toList_toArray, zerosA, List.replicate, List.flatten, List.append_nil]; done) | rfl) (by first | (dsimp only [List.set, List.append, List.cons_append, List.nil_append, splice, AV.cells, List.map, List.map_cons, List.map_nil, List.take, List.drop, Nat.zero_add, Nat.add_zero, Nat.reduceAdd, Nat.reduceMul, Nat.zero_mul, Value.cells, List.toList_toArray, zerosA, List.replicate, List.flatten, List.append_nil]; rfl) | (dsimp only [List.set, List.append, List.cons_append, List.nil_append, splice, AV.cells, List.map, List.map_cons, List.map_nil, List.take, List.drop, Nat.zero_add, Nat.add_zero, Nat.reduceAdd, Nat.reduceMul, Nat.zero_mul, Value.cells, List.toList_toArray, zerosA, List.replicate, List.flatten, List.append_nil]; done) | rfl) ?_) | (refine AO.store (i := 4) rfl rfl rfl rfl rfl rfl (by first | rfl | (simp [AV.cells, AV.one, *]; done) | simp [AV.cells, AV.one, Value.oneCell', *]) (by rfl) (by rfl) (by first | (dsimp only [List.set, List.append, List.cons_append, List.nil_append, splice, AV.cells, List.map, List.map_cons, List.map_nil, List.take, List.drop, Nat.zero_add, Nat.add_zero, Nat.reduceAdd, Nat.reduceMul, Nat.zero_mul, Value.cells, List.toList_toArray, zerosA, List.replicate, List.flatten, List.append_nil]; rfl) | (dsimp only [List.set, List.append, List.cons_append, List.nil_append, splice, AV.cells, List.map, List.map_cons, List.map_nil, List.take, List.drop, Nat.zero_add, Nat.add_zero, Nat.reduceAdd, Nat.reduceMul, Nat.zero_mul, Value.cells, List.toList_toArray, zerosA, List.replicate, List.flatten, List.append_nil]; done) | rfl) (by first | (dsimp only [List.set, List.append, List.cons_append, List.nil_append, splice, AV.cells, List.map, List.map_cons, List.map_nil, List.take, List.drop, Nat.zero_add, Nat.add_zero, Nat.reduceAdd, Nat.reduceMul, Nat.zero_mul, Value.cells, List.toList_toArray, zerosA, List.replicate, List.flatten, List.append_nil]; rfl) | (dsimp only [List.set, List.append, List.cons_append, List.nil_append, splice, AV.cells, List.map, List.map_cons, List.map_nil, List.take, List.drop, Nat.zero_add, Nat.add_zero, Nat.reduceAdd, Nat.reduceMul, Nat.zero_mul, Value.cells, List.toList_toArray, zerosA, List.replicate, List.flatten, List.append_nil]; done) | rfl) ?_) | (refine AO.store (i := 5) rfl rfl rfl rfl rfl rfl (by first | rfl | (simp [AV.cells, AV.one, *]; done) | simp [AV.cells, AV.one, Value.oneCell', *]) (by rfl) (by rfl) (by first | (dsimp only [List.set, List.append, List.cons_append, List.nil_append, splice, AV.cells, List.map, List.map_cons, List.map_nil, List.take, List.drop, Nat.zero_add, Nat.add_zero, Nat.reduceAdd, Nat.reduceMul, Nat.zero_mul, Value.cells, List.toList_toArray, zerosA, List.replicate, List.flatten, List.append_nil]; rfl) | (dsimp only [List.set, List.append, List.cons_append, List.nil_append, splice, AV.cells, List.map, List.map_cons, List.map_nil, List.take, List.drop, Nat.zero_add, Nat.add_zero, Nat.reduceAdd, Nat.reduceMul, Nat.zero_mul, Value.cells, List.toList_toArray, zerosA, List.replicate, List.flatten, List.append_nil]; done) | rfl) (by first | (dsimp only [List.set, List.append, List.cons_append, List.nil_append, splice, AV.cells, List.map, List.map_cons, List.map_nil, List.take, List.drop, Nat.zero_add, Nat.add_zero, Nat.reduceAdd, Nat.reduceMul, Nat.zero_mul, Value.cells, List.toList_toArray, zerosA, List.replicate, List.flatten, List.append_nil]; rfl) | (dsimp only [List.set, List.append, List.cons_append, List.nil_append, splice, AV.cells, List.map, List.map_cons, List.map_nil, List.take, List.drop, Nat.zero_add, Nat.add_zero, Nat.reduceAdd, Nat.reduceMul, Nat.zero_mul, Value.cells, List.toList_toArray, zerosA, List.replicate, List.flatten, List.append_nil]; done) | rfl) ?_)
          refine AO.nil ?_
          refine AQ.thenN ?_
          refine AW.seq ?_
          refine AW.region ?_
          first | (refine AO.op (O.loadRK rfl rfl (by first | exact getW (by assumption) | exact getWT (by assumption) (by omega) | (dsimp only [List.take, List.drop]; rfl)) (by rfl)) rfl rfl rfl ?_) | (refine AO.op (O.loadK rfl rfl (by repeat (first | exact List.Mem.head _ | refine List.Mem.tail _ ?_)) (by first | (dsimp only [List.set, List.append, List.cons_append, List.nil_append, splice, AV.cells, List.map, List.map_cons, List.map_nil, List.take, List.drop, Nat.zero_add, Nat.add_zero, Nat.reduceAdd, Nat.reduceMul, Nat.zero_mul, Value.cells, List.toList_toArray, zerosA, List.replicate, List.flatten, List.append_nil]; rfl) | (dsimp only [List.set, List.append, List.cons_append, List.nil_append, splice, AV.cells, List.map, List.map_cons, List.map_nil, List.take, List.drop, Nat.zero_add, Nat.add_zero, Nat.reduceAdd, Nat.reduceMul, Nat.zero_mul, Value.cells, List.toList_toArray, zerosA, List.replicate, List.flatten, List.append_nil]; done) | rfl) (by rfl)) rfl rfl rfl ?_)
          first | (refine AO.op (O.loadRK rfl rfl (by first | exact getW (by assumption) | exact getWT (by assumption) (by omega) | (dsimp only [List.take, List.drop]; rfl)) (by rfl)) rfl rfl rfl ?_) | (refine AO.op (O.loadK rfl rfl (by repeat (first | exact List.Mem.head _ | refine List.Mem.tail _ ?_)) (by first | (dsimp only [List.set, List.append, List.cons_append, List.nil_append, splice, AV.cells, List.map, List.map_cons, List.map_nil, List.take, List.drop, Nat.zero_add, Nat.add_zero, Nat.reduceAdd, Nat.reduceMul, Nat.zero_mul, Value.cells, List.toList_toArray, zerosA, List.replicate, List.flatten, List.append_nil]; rfl) | (dsimp only [List.set, List.append, List.cons_append, List.nil_append, splice, AV.cells, List.map, List.map_cons, List.map_nil, List.take, List.drop, Nat.zero_add, Nat.add_zero, Nat.reduceAdd, Nat.reduceMul, Nat.zero_mul, Value.cells, List.toList_toArray, zerosA, List.replicate, List.flatten, List.append_nil]; done) | rfl) (by rfl)) rfl rfl rfl ?_)
          refine AO.op (O.call rfl Try.func35 rfl rfl rfl (meets_fn _ _ _ _ _ _ _ _ _ _)) rfl rfl rfl ?_
          refine AO.nil ?_
          refine AQ.thenN ?_
          refine AW.split rfl (fun hm => ?_) (fun hm => ?_)
          · skip
            have hm : meetsW (wat ws j) (wat ws k) = true := hm
            refine AW.seq ?_
            refine AW.region ?_
            refine AO.op (O.assign rfl rfl) rfl rfl rfl ?_
            refine AO.nil ?_
            refine AQ.thenN ?_
            refine AW.ret ?_
            refine AQ.blockR ?_
            refine AQ.thenR ?_
            refine AQ.loopR ?_
            refine AQ.blockR ?_
            refine AQ.blockR ?_
            refine AQ.thenR ?_
            refine AQ.loopR ?_
            refine AQ.blockR ?_
            refine AQ.thenR ?_
            refine AQ.ret1 rfl rfl ⟨_, List.nil_sublist _, .nil⟩ (⟨by rw [valid_no hlt (okAt_no2 hjk hm)]; rfl, rfl⟩)
          · skip
            have hm : meetsW (wat ws j) (wat ws k) = false := hm
            refine AW.skip ?_
            refine AQ.blockN ?_
            refine AQ.thenN ?_
            refine AW.region ?_
            refine AO.op (O.add rfl rfl rfl (by first | exact wI64 (by omega) | rfl)) rfl rfl rfl ?_
            refine AO.op (O.move rfl rfl) rfl rfl rfl ?_
            refine AO.nil ?_
            refine AQ.loopN _ _ _ (by omega) (⟨j + 1, by omega, rfl, allLt hno hm, rfl, rfl⟩) (by repeat (first | exact envNil | refine envCons rfl ?_)) ⟨_, by repeat (first | exact List.Sublist.slnil | refine List.Sublist.cons_cons _ ?_ | refine List.Sublist.cons _ ?_), List.Perm.refl _⟩
        · skip
          have hjk : j = k := by simp at hjk; omega
          subst hjk
          refine AW.exit ?_
          refine AQ.thenX ?_
          refine AQ.loopX ?_
          refine AQ.blockX rfl ?_
          refine AQ.blockN ?_
          refine AQ.thenN ?_
          refine AW.region ?_
          refine AO.op (O.add rfl rfl rfl (by first | exact wI64 (by omega) | rfl)) rfl rfl rfl ?_
          refine AO.op (O.move rfl rfl) rfl rfl rfl ?_
          refine AO.nil ?_
          refine AQ.loopN _ _ _ (by omega) (⟨j + 1, by omega, rfl, by rw [okTo_succ, hok, okAt_yes hs hno]; rfl, rfl, rfl⟩) (by repeat (first | exact envNil | refine envCons rfl ?_)) ⟨_, by repeat (first | exact List.Sublist.slnil | refine List.Sublist.cons_cons _ ?_ | refine List.Sublist.cons _ ?_), List.Perm.refl _⟩
    · skip
      have hlt : k = ws.length := by simp at hlt; omega
      subst hlt
      refine AW.exit ?_
      refine AQ.thenX ?_
      refine AQ.loopX ?_
      refine AQ.blockX rfl ?_
      refine AQ.thenN ?_
      refine AW.seq ?_
      refine AW.region ?_
      refine AO.op (O.assign rfl rfl) rfl rfl rfl ?_
      refine AO.nil ?_
      refine AQ.thenN ?_
      refine AW.ret ?_
      refine AQ.ret1 rfl rfl ⟨_, List.nil_sublist _, .nil⟩ (⟨by simp [ofConst, validW, hlen, hok], rfl⟩)
set_option maxHeartbeats 1000000 in
theorem rvalid_fn (ws : List Watch) : Sp Try.prog 16 [roW ws] [] (Is (.val (.bool (validW ws)))) := by
  refine Sp.enter Try.func16 rfl _ Try.ntmps16 rfl (fun w0 R0 => ?_)
  refine AW.seq ?_
  refine AW.region ?_
  refine AO.op (O.assign rfl rfl) rfl rfl rfl ?_
  refine AO.nil ?_
  refine AQ.thenN ?_
  refine AW.seq ?_
  refine AW.seq ?_
  refine AW.region ?_
  refine AO.op (O.move rfl rfl) rfl rfl rfl ?_
  first | (refine AO.op (O.lenR rfl rfl) rfl rfl rfl ?_) | (refine AO.op (O.lenV rfl rfl) rfl rfl rfl ?_) | (refine AO.op (O.lenRow rfl rfl (by repeat (first | exact List.Mem.head _ | refine List.Mem.tail _ ?_))) rfl rfl rfl ?_) | (refine AO.op (O.lenS rfl rfl) rfl rfl rfl ?_)
  refine AO.op (O.gtr rfl rfl rfl (by first | exact bTrue (by omega) | exact bFalse (by omega) | assumption | rfl)) rfl rfl rfl ?_
  refine AO.nil ?_
  refine AQ.thenN ?_
  refine AW.split rfl (fun h => ?_) (fun h => ?_)
  · skip
    refine AW.seq ?_
    refine AW.region ?_
    refine AO.op (O.assign rfl rfl) rfl rfl rfl ?_
    refine AO.nil ?_
    refine AQ.thenN ?_
    refine AW.ret ?_
    refine AQ.thenR ?_
    refine AQ.ret1 rfl rfl ⟨_, List.nil_sublist _, .nil⟩ (⟨by simp at h; simp [ofConst, validW, show ¬ ws.length ≤ 16 by omega], rfl⟩)
  · skip
    have hlen : ws.length ≤ 16 := by simp at h; omega
    refine AW.skip ?_
    refine AQ.thenN ?_
    refine AW.seq ?_
    refine AW.seq ?_
    refine AW.region ?_
    refine AO.op (O.move rfl rfl) rfl rfl rfl ?_
    first | (refine AO.op (O.lenR rfl rfl) rfl rfl rfl ?_) | (refine AO.op (O.lenV rfl rfl) rfl rfl rfl ?_) | (refine AO.op (O.lenRow rfl rfl (by repeat (first | exact List.Mem.head _ | refine List.Mem.tail _ ?_))) rfl rfl rfl ?_) | (refine AO.op (O.lenS rfl rfl) rfl rfl rfl ?_)
    refine AO.op (O.move rfl rfl) rfl rfl rfl ?_
    refine AO.nil ?_
    refine AQ.thenN ?_
    refine AW.block ?_
    refine AW.loop (fun n E H => ∃ k : Nat, k ≤ ws.length ∧ n = ws.length - k ∧ okTo ws k = true ∧ E = [(0, roW ws), (10, roW ws), (11, .val (.int .i64 (ws.length : Int))), (12, .val (.int .i64 (k : Int)))] ∧ H = []) (ws.length) (⟨0, by omega, rfl, rfl, rfl, rfl⟩) (by repeat (first | exact envNil | refine envCons rfl ?_)) ⟨_, by repeat (first | exact List.Sublist.slnil | refine List.Sublist.cons_cons _ ?_ | refine List.Sublist.cons _ ?_), List.Perm.refl _⟩ ?_
    rintro n E H ⟨k, hk, rfl, hok, rfl, rfl⟩
    refine AW.seq ?_
    refine AW.region ?_
    refine AO.op (O.lss rfl rfl rfl (by first | exact bTrue (by omega) | exact bFalse (by omega) | assumption | rfl)) rfl rfl rfl ?_
    refine AO.nil ?_
    refine AQ.thenN ?_
    refine AW.seq ?_
    refine AW.split rfl (fun hlt => ?_) (fun hlt => ?_)
    · skip
      have hlt : k < ws.length := by simpa using hlt
      refine AW.skip ?_
      refine AQ.thenN ?_
      refine AW.seq ?_
      refine AW.block ?_
      refine AW.seq ?_
      refine AW.region ?_
      refine AO.op (O.move rfl rfl) rfl rfl rfl ?_
      first | (refine AO.op (O.idxR rfl rfl rfl ⟨by omega, by omega⟩) rfl rfl rfl ?_) | (refine AO.op (O.idxV rfl rfl rfl ⟨by omega, by omega⟩) rfl rfl rfl ?_)
      first | (refine AO.op (O.loadRK rfl rfl (by first | exact getW (by assumption) | exact getWT (by assumption) (by omega) | (dsimp only [List.take, List.drop]; rfl)) (by rfl)) rfl rfl rfl ?_) | (refine AO.op (O.loadK rfl rfl (by repeat (first | exact List.Mem.head _ | refine List.Mem.tail _ ?_)) (by first | (dsimp only [List.set, List.append, List.cons_append, List.nil_append, splice, AV.cells, List.map, List.map_cons, List.map_nil, List.take, List.drop, Nat.zero_add, Nat.add_zero, Nat.reduceAdd, Nat.reduceMul, Nat.zero_mul, Value.cells, List.toList_toArray, zerosA, List.replicate, List.flatten, List.append_nil]; rfl) | (dsimp only [List.set, List.append, List.cons_append, List.nil_append, splice, AV.cells, List.map, List.map_cons, List.map_nil, List.take, List.drop, Nat.zero_add, Nat.add_zero, Nat.reduceAdd, Nat.reduceMul, Nat.zero_mul, Value.cells, List.toList_toArray, zerosA, List.replicate, List.flatten, List.append_nil]; done) | rfl) (by rfl)) rfl rfl rfl ?_)
      refine AO.opB (O.alloc rfl (by first | (dsimp only [List.set, List.append, List.cons_append, List.nil_append, splice, AV.cells, List.map, List.map_cons, List.map_nil, List.take, List.drop, Nat.zero_add, Nat.add_zero, Nat.reduceAdd, Nat.reduceMul, Nat.zero_mul, Value.cells, List.toList_toArray, zerosA, List.replicate, List.flatten, List.append_nil]; rfl) | (dsimp only [List.set, List.append, List.cons_append, List.nil_append, splice, AV.cells, List.map, List.map_cons, List.map_nil, List.take, List.drop, Nat.zero_add, Nat.add_zero, Nat.reduceAdd, Nat.reduceMul, Nat.zero_mul, Value.cells, List.toList_toArray, zerosA, List.replicate, List.flatten, List.append_nil]; done) | rfl) (by rfl)) rfl rfl rfl ?_
      intro B
      refine AO.op (O.assign rfl rfl) rfl rfl rfl ?_
      first | (refine AO.store (i := 0) rfl rfl rfl rfl rfl rfl (by first | rfl | (simp [AV.cells, AV.one, *]; done) | simp [AV.cells, AV.one, Value.oneCell', *]) (by rfl) (by rfl) (by first | (dsimp only [List.set, List.append, List.cons_append, List.nil_append, splice, AV.cells, List.map, List.map_cons, List.map_nil, List.take, List.drop, Nat.zero_add, Nat.add_zero, Nat.reduceAdd, Nat.reduceMul, Nat.zero_mul, Value.cells, List.toList_toArray, zerosA, List.replicate, List.flatten, List.append_nil]; rfl) | (dsimp only [List.set, List.append, List.cons_append, List.nil_append, splice, AV.cells, List.map, List.map_cons, List.map_nil, List.take, List.drop, Nat.zero_add, Nat.add_zero, Nat.reduceAdd, Nat.reduceMul, Nat.zero_mul, Value.cells, List.toList_toArray, zerosA, List.replicate, List.flatten, List.append_nil]; done) | rfl) (by first | (dsimp only [List.set, List.append, List.cons_append, List.nil_append, splice, AV.cells, List.map, List.map_cons, List.map_nil, List.take, List.drop, Nat.zero_add, Nat.add_zero, Nat.reduceAdd, Nat.reduceMul, Nat.zero_mul, Value.cells, List.toList_toArray, zerosA, List.replicate, List.flatten, List.append_nil]; rfl) | (dsimp only [List.set, List.append, List.cons_append, List.nil_append, splice, AV.cells, List.map, List.map_cons, List.map_nil, List.take, List.drop, Nat.zero_add, Nat.add_zero, Nat.reduceAdd, Nat.reduceMul, Nat.zero_mul, Value.cells, List.toList_toArray, zerosA, List.replicate, List.flatten, List.append_nil]; done) | rfl) ?_) | (refine AO.store (i := 1) rfl rfl rfl rfl rfl rfl (by first | rfl | (simp [AV.cells, AV.one, *]; done) | simp [AV.cells, AV.one, Value.oneCell', *]) (by rfl) (by rfl) (by first | (dsimp only [List.set, List.append, List.cons_append, List.nil_append, splice, AV.cells, List.map, List.map_cons, List.map_nil, List.take, List.drop, Nat.zero_add, Nat.add_zero, Nat.reduceAdd, Nat.reduceMul, Nat.zero_mul, Value.cells, List.toList_toArray, zerosA, List.replicate, List.flatten, List.append_nil]; rfl) | (dsimp only [List.set, List.append, List.cons_append, List.nil_append, splice, AV.cells, List.map, List.map_cons, List.map_nil, List.take, List.drop, Nat.zero_add, Nat.add_zero, Nat.reduceAdd, Nat.reduceMul, Nat.zero_mul, Value.cells, List.toList_toArray, zerosA, List.replicate, List.flatten, List.append_nil]; done) | rfl) (by first | (dsimp only [List.set, List.append, List.cons_append, List.nil_append, splice, AV.cells, List.map, List.map_cons, List.map_nil, List.take, List.drop, Nat.zero_add, Nat.add_zero, Nat.reduceAdd, Nat.reduceMul, Nat.zero_mul, Value.cells, List.toList_toArray, zerosA, List.replicate, List.flatten, List.append_nil]; rfl) | (dsimp only [List.set, List.append, List.cons_append, List.nil_append, splice, AV.cells, List.map, List.map_cons, List.map_nil, List.take, List.drop, Nat.zero_add, Nat.add_zero, Nat.reduceAdd, Nat.reduceMul, Nat.zero_mul, Value.cells, List.toList_toArray, zerosA, List.replicate, List.flatten, List.append_nil]; done) | rfl) ?_) | (refine AO.store (i := 2) rfl rfl rfl rfl rfl rfl (by first | rfl | (simp [AV.cells, AV.one, *]; done) | simp [AV.cells, AV.one, Value.oneCell', *]) (by rfl) (by rfl) (by first | (dsimp only [List.set, List.append, List.cons_append, List.nil_append, splice, AV.cells, List.map, List.map_cons, List.map_nil, List.take, List.drop, Nat.zero_add, Nat.add_zero, Nat.reduceAdd, Nat.reduceMul, Nat.zero_mul, Value.cells, List.toList_toArray, zerosA, List.replicate, List.flatten, List.append_nil]; rfl) | (dsimp only [List.set, List.append, List.cons_append, List.nil_append, splice, AV.cells, List.map, List.map_cons, List.map_nil, List.take, List.drop, Nat.zero_add, Nat.add_zero, Nat.reduceAdd, Nat.reduceMul, Nat.zero_mul, Value.cells, List.toList_toArray, zerosA, List.replicate, List.flatten, List.append_nil]; done) | rfl) (by first | (dsimp only [List.set, List.append, List.cons_append, List.nil_append, splice, AV.cells, List.map, List.map_cons, List.map_nil, List.take, List.drop, Nat.zero_add, Nat.add_zero, Nat.reduceAdd, Nat.reduceMul, Nat.zero_mul, Value.cells, List.toList_toArray, zerosA, List.replicate, List.flatten, List.append_nil]; rfl) | (dsimp only [List.set, List.append, List.cons_append, List.nil_append, splice, AV.cells, List.map, List.map_cons, List.map_nil, List.take, List.drop, Nat.zero_add, Nat.add_zero, Nat.reduceAdd, Nat.reduceMul, Nat.zero_mul, Value.cells, List.toList_toArray, zerosA, List.replicate, List.flatten, List.append_nil]; done) | rfl) ?_) | (refine AO.store (i := 3) rfl rfl rfl rfl rfl rfl (by first | rfl | (simp [AV.cells, AV.one, *]; done) | simp [AV.cells, AV.one, Value.oneCell', *]) (by rfl) (by rfl) (by first | (dsimp only [List.set, List.append, List.cons_append, List.nil_append, splice, AV.cells, List.map, List.map_cons, List.map_nil, List.take, List.drop, Nat.zero_add, Nat.add_zero, Nat.reduceAdd, Nat.reduceMul, Nat.zero_mul, Value.cells, List.toList_toArray, zerosA, List.replicate, List.flatten, List.append_nil]; rfl) | (dsimp only [List.set, List.append, List.cons_append, List.nil_append, splice, AV.cells, List.map, List.map_cons, List.map_nil, List.take, List.drop, Nat.zero_add, Nat.add_zero, Nat.reduceAdd, Nat.reduceMul, Nat.zero_mul, Value.cells, List.toList_toArray, zerosA, List.replicate, List.flatten, List.append_nil]; done) | rfl) (by first | (dsimp only [List.set, List.append, List.cons_append, List.nil_append, splice, AV.cells, List.map, List.map_cons, List.map_nil, List.take, List.drop, Nat.zero_add, Nat.add_zero, Nat.reduceAdd, Nat.reduceMul, Nat.zero_mul, Value.cells, List.toList_toArray, zerosA, List.replicate, List.flatten, List.append_nil]; rfl) | (dsimp only [List.set, List.append, List.cons_append, List.nil_append, splice, AV.cells, List.map, List.map_cons, List.map_nil, List.take, List.drop, Nat.zero_add, Nat.add_zero, Nat.reduceAdd, Nat.reduceMul, Nat.zero_mul, Value.cells, List.toList_toArray, zerosA, List.replicate, List.flatten, List.append_nil]; done) | rfl) ?_) | (refine AO.store (i := 4) rfl rfl rfl rfl rfl rfl (by first | rfl | (simp [AV.cells, AV.one, *]; done) | simp [AV.cells, AV.one, Value.oneCell', *]) (by rfl) (by rfl) (by first | (dsimp only [List.set, List.append, List.cons_append, List.nil_append, splice, AV.cells, List.map, List.map_cons, List.map_nil, List.take, List.drop, Nat.zero_add, Nat.add_zero, Nat.reduceAdd, Nat.reduceMul, Nat.zero_mul, Value.cells, List.toList_toArray, zerosA, List.replicate, List.flatten, List.append_nil]; rfl) | (dsimp only [List.set, List.append, List.cons_append, List.nil_append, splice, AV.cells, List.map, List.map_cons, List.map_nil, List.take, List.drop, Nat.zero_add, Nat.add_zero, Nat.reduceAdd, Nat.reduceMul, Nat.zero_mul, Value.cells, List.toList_toArray, zerosA, List.replicate, List.flatten, List.append_nil]; done) | rfl) (by first | (dsimp only [List.set, List.append, List.cons_append, List.nil_append, splice, AV.cells, List.map, List.map_cons, List.map_nil, List.take, List.drop, Nat.zero_add, Nat.add_zero, Nat.reduceAdd, Nat.reduceMul, Nat.zero_mul, Value.cells, List.toList_toArray, zerosA, List.replicate, List.flatten, List.append_nil]; rfl) | (dsimp only [List.set, List.append, List.cons_append, List.nil_append, splice, AV.cells, List.map, List.map_cons, List.map_nil, List.take, List.drop, Nat.zero_add, Nat.add_zero, Nat.reduceAdd, Nat.reduceMul, Nat.zero_mul, Value.cells, List.toList_toArray, zerosA, List.replicate, List.flatten, List.append_nil]; done) | rfl) ?_) | (refine AO.store (i := 5) rfl rfl rfl rfl rfl rfl (by first | rfl | (simp [AV.cells, AV.one, *]; done) | simp [AV.cells, AV.one, Value.oneCell', *]) (by rfl) (by rfl) (by first | (dsimp only [List.set, List.append, List.cons_append, List.nil_append, splice, AV.cells, List.map, List.map_cons, List.map_nil, List.take, List.drop, Nat.zero_add, Nat.add_zero, Nat.reduceAdd, Nat.reduceMul, Nat.zero_mul, Value.cells, List.toList_toArray, zerosA, List.replicate, List.flatten, List.append_nil]; rfl) | (dsimp only [List.set, List.append, List.cons_append, List.nil_append, splice, AV.cells, List.map, List.map_cons, List.map_nil, List.take, List.drop, Nat.zero_add, Nat.add_zero, Nat.reduceAdd, Nat.reduceMul, Nat.zero_mul, Value.cells, List.toList_toArray, zerosA, List.replicate, List.flatten, List.append_nil]; done) | rfl) (by first | (dsimp only [List.set, List.append, List.cons_append, List.nil_append, splice, AV.cells, List.map, List.map_cons, List.map_nil, List.take, List.drop, Nat.zero_add, Nat.add_zero, Nat.reduceAdd, Nat.reduceMul, Nat.zero_mul, Value.cells, List.toList_toArray, zerosA, List.replicate, List.flatten, List.append_nil]; rfl) | (dsimp only [List.set, List.append, List.cons_append, List.nil_append, splice, AV.cells, List.map, List.map_cons, List.map_nil, List.take, List.drop, Nat.zero_add, Nat.add_zero, Nat.reduceAdd, Nat.reduceMul, Nat.zero_mul, Value.cells, List.toList_toArray, zerosA, List.replicate, List.flatten, List.append_nil]; done) | rfl) ?_)
      refine AO.nil ?_
      refine AQ.thenN ?_
      refine AW.seq ?_
      refine AW.seq ?_
      refine AW.region ?_
      first | (refine AO.op (O.loadRK rfl rfl (by first | exact getW (by assumption) | exact getWT (by assumption) (by omega) | (dsimp only [List.take, List.drop]; rfl)) (by rfl)) rfl rfl rfl ?_) | (refine AO.op (O.loadK rfl rfl (by repeat (first | exact List.Mem.head _ | refine List.Mem.tail _ ?_)) (by first | (dsimp only [List.set, List.append, List.cons_append, List.nil_append, splice, AV.cells, List.map, List.map_cons, List.map_nil, List.take, List.drop, Nat.zero_add, Nat.add_zero, Nat.reduceAdd, Nat.reduceMul, Nat.zero_mul, Value.cells, List.toList_toArray, zerosA, List.replicate, List.flatten, List.append_nil]; rfl) | (dsimp only [List.set, List.append, List.cons_append, List.nil_append, splice, AV.cells, List.map, List.map_cons, List.map_nil, List.take, List.drop, Nat.zero_add, Nat.add_zero, Nat.reduceAdd, Nat.reduceMul, Nat.zero_mul, Value.cells, List.toList_toArray, zerosA, List.replicate, List.flatten, List.append_nil]; done) | rfl) (by rfl)) rfl rfl rfl ?_)
      refine AO.op (O.call rfl Try.func36 rfl rfl rfl (proper_fn _ _ _ _ _)) rfl rfl rfl ?_
      refine AO.op (O.not rfl rfl (by first | assumption | rfl)) rfl rfl rfl ?_
      refine AO.nil ?_
      refine AQ.thenN ?_
      refine AW.split rfl (fun hs => ?_) (fun hs => ?_)
      · skip
        have hs : soundW (wat ws k) = false := by simpa [soundW] using hs
        refine AW.seq ?_
        refine AW.region ?_
        refine AO.op (O.assign rfl rfl) rfl rfl rfl ?_
        refine AO.nil ?_
        refine AQ.thenN ?_
        refine AW.ret ?_
        refine AQ.thenR ?_
        refine AQ.blockR ?_
        refine AQ.thenR ?_
        refine AQ.loopR ?_
        refine AQ.blockR ?_
        refine AQ.thenR ?_
        refine AQ.ret1 rfl rfl ⟨_, List.nil_sublist _, .nil⟩ (⟨by rw [valid_no hlt (okAt_no1 hs)]; rfl, rfl⟩)
      · skip
        have hs : soundW (wat ws k) = true := by simpa [soundW] using hs
        refine AW.skip ?_
        refine AQ.thenN ?_
        refine AW.seq ?_
        refine AW.region ?_
        refine AO.op (O.move rfl rfl) rfl rfl rfl ?_
        refine AO.op (O.move rfl rfl) rfl rfl rfl ?_
        refine AO.op (O.sliceTo rfl rfl rfl (by first | rfl | omega) (by omega) (by first | exact getWK | rfl)) rfl rfl rfl ?_
        first | (refine AO.op (O.lenR rfl rfl) rfl rfl rfl ?_) | (refine AO.op (O.lenV rfl rfl) rfl rfl rfl ?_) | (refine AO.op (O.lenRow rfl rfl (by repeat (first | exact List.Mem.head _ | refine List.Mem.tail _ ?_))) rfl rfl rfl ?_) | (refine AO.op (O.lenS rfl rfl) rfl rfl rfl ?_)
        refine AO.op (O.move rfl rfl) rfl rfl rfl ?_
        refine AO.nil ?_
        refine AQ.thenN ?_
        refine AW.block ?_
        refine AW.loop (fun n E H => ∃ j : Nat, j ≤ k ∧ n = k - j ∧ (∀ i, i < j → meetsW (wat ws i) (wat ws k) = false) ∧ E = [(0, roW ws), (4, .val (.pointer (some ⟨B, 0, none⟩))), (10, roW ws), (11, .val (.int .i64 (ws.length : Int))), (12, .val (.int .i64 (k : Int))), (22, .ro false k (watchesA (ws.take k))), (23, .val (.int .i64 (k : Int))), (24, .val (.int .i64 (j : Int)))] ∧ H = [.blk B 58 5 (wat ws k).cells]) (k) (⟨0, by omega, rfl, fun i hi => by omega, rfl, rfl⟩) (by repeat (first | exact envNil | refine envCons rfl ?_)) ⟨_, by repeat (first | exact List.Sublist.slnil | refine List.Sublist.cons_cons _ ?_ | refine List.Sublist.cons _ ?_), List.Perm.refl _⟩ ?_
        rintro n E H ⟨j, hj, rfl, hno, rfl, rfl⟩
        refine AW.seq ?_
        refine AW.region ?_
        refine AO.op (O.lss rfl rfl rfl (by first | exact bTrue (by omega) | exact bFalse (by omega) | assumption | rfl)) rfl rfl rfl ?_
        refine AO.nil ?_
        refine AQ.thenN ?_
        refine AW.seq ?_
        refine AW.split rfl (fun hjk => ?_) (fun hjk => ?_)
        · skip
          have hjk : j < k := by simpa using hjk
          refine AW.skip ?_
          refine AQ.thenN ?_
          refine AW.seq ?_
          refine AW.block ?_
          refine AW.seq ?_
          refine AW.region ?_
          first | (refine AO.op (O.idxR rfl rfl rfl ⟨by omega, by omega⟩) rfl rfl rfl ?_) | (refine AO.op (O.idxV rfl rfl rfl ⟨by omega, by omega⟩) rfl rfl rfl ?_)
          first | (refine AO.op (O.loadRK rfl rfl (by first | exact getW (by assumption) | exact getWT (by assumption) (by omega) | (dsimp only [List.take, List.drop]; rfl)) (by rfl)) rfl rfl rfl ?_) | (refine AO.op (O.loadK rfl rfl (by repeat (first | exact List.Mem.head _ | refine List.Mem.tail _ ?_)) (by first | (dsimp only [List.set, List.append, List.cons_append, List.nil_append, splice, AV.cells, List.map, List.map_cons, List.map_nil, List.take, List.drop, Nat.zero_add, Nat.add_zero, Nat.reduceAdd, Nat.reduceMul, Nat.zero_mul, Value.cells, List.toList_toArray, zerosA, List.replicate, List.flatten, List.append_nil]; rfl) | (dsimp only [List.set, List.append, List.cons_append, List.nil_append, splice, AV.cells, List.map, List.map_cons, List.map_nil, List.take, List.drop, Nat.zero_add, Nat.add_zero, Nat.reduceAdd, Nat.reduceMul, Nat.zero_mul, Value.cells, List.toList_toArray, zerosA, List.replicate, List.flatten, List.append_nil]; done) | rfl) (by rfl)) rfl rfl rfl ?_)
          refine AO.opB (O.alloc rfl (by first | (dsimp only [List.set, List.append, List.cons_append, List.nil_append, splice, AV.cells, List.map, List.map_cons, List.map_nil, List.take, List.drop, Nat.zero_add, Nat.add_zero, Nat.reduceAdd, Nat.reduceMul, Nat.zero_mul, Value.cells, List.toList_toArray, zerosA, List.replicate, List.flatten, List.append_nil]; rfl) | (dsimp only [List.set, List.append, List.cons_append, List.nil_append, splice, AV.cells, List.map, List.map_cons, List.map_nil, List.take, List.drop, Nat.zero_add, Nat.add_zero, Nat.reduceAdd, Nat.reduceMul, Nat.zero_mul, Value.cells, List.toList_toArray, zerosA, List.replicate, List.flatten, List.append_nil]; done) | rfl) (by rfl)) rfl rfl rfl ?_
          intro B
          first | (refine AO.store (i := 0) rfl rfl rfl rfl rfl rfl (by first | rfl | (simp [AV.cells, AV.one, *]; done) | simp [AV.cells, AV.one, Value.oneCell', *]) (by rfl) (by rfl) (by first | (dsimp only [List.set, List.append, List.cons_append, List.nil_append, splice, AV.cells, List.map, List.map_cons, List.map_nil, List.take, List.drop, Nat.zero_add, Nat.add_zero, Nat.reduceAdd, Nat.reduceMul, Nat.zero_mul, Value.cells, List.toList_toArray, zerosA, List.replicate, List.flatten, List.append_nil]; rfl) | (dsimp only [List.set, List.append, List.cons_append, List.nil_append, splice, AV.cells, List.map, List.map_cons, List.map_nil, List.take, List.drop, Nat.zero_add, Nat.add_zero, Nat.reduceAdd, Nat.reduceMul, Nat.zero_mul, Value.cells, List.toList_toArray, zerosA, List.replicate, List.flatten, List.append_nil]; done) | rfl) (by first | (dsimp only [List.set, List.append, List.cons_append, List.nil_append, splice, AV.cells, List.map, List.map_cons, List.map_nil, List.take, List.drop, Nat.zero_add, Nat.add_zero, Nat.reduceAdd, Nat.reduceMul, Nat.zero_mul, Value.cells, List.toList_toArray, zerosA, List.replicate, List.flatten, List.append_nil]; rfl) | (dsimp only [List.set, List.append, List.cons_append, List.nil_append, splice, AV.cells, List.map, List.map_cons, List.map_nil, List.take, List.drop, Nat.zero_add, Nat.add_zero, Nat.reduceAdd, Nat.reduceMul, Nat.zero_mul, Value.cells, List.toList_toArray, zerosA, List.replicate, List.flatten, List.append_nil]; done) | rfl) ?_) | (refine AO.store (i := 1) rfl rfl rfl rfl rfl rfl (by first | rfl | (simp [AV.cells, AV.one, *]; done) | simp [AV.cells, AV.one, Value.oneCell', *]) (by rfl) (by rfl) (by first | (dsimp only [List.set, List.append, List.cons_append, List.nil_append, splice, AV.cells, List.map, List.map_cons, List.map_nil, List.take, List.drop, Nat.zero_add, Nat.add_zero, Nat.reduceAdd, Nat.reduceMul, Nat.zero_mul, Value.cells, List.toList_toArray, zerosA, List.replicate, List.flatten, List.append_nil]; rfl) | (dsimp only [List.set, List.append, List.cons_append, List.nil_append, splice, AV.cells, List.map, List.map_cons, List.map_nil, List.take, List.drop, Nat.zero_add, Nat.add_zero, Nat.reduceAdd, Nat.reduceMul, Nat.zero_mul, Value.cells, List.toList_toArray, zerosA, List.replicate, List.flatten, List.append_nil]; done) | rfl) (by first | (dsimp only [List.set, List.append, List.cons_append, List.nil_append, splice, AV.cells, List.map, List.map_cons, List.map_nil, List.take, List.drop, Nat.zero_add, Nat.add_zero, Nat.reduceAdd, Nat.reduceMul, Nat.zero_mul, Value.cells, List.toList_toArray, zerosA, List.replicate, List.flatten, List.append_nil]; rfl) | (dsimp only [List.set, List.append, List.cons_append, List.nil_append, splice, AV.cells, List.map, List.map_cons, List.map_nil, List.take, List.drop, Nat.zero_add, Nat.add_zero, Nat.reduceAdd, Nat.reduceMul, Nat.zero_mul, Value.cells, List.toList_toArray, zerosA, List.replicate, List.flatten, List.append_nil]; done) | rfl) ?_) | (refine AO.store (i := 2) rfl rfl rfl rfl rfl rfl (by first | rfl | (simp [AV.cells, AV.one, *]; done) | simp [AV.cells, AV.one, Value.oneCell', *]) (by rfl) (by rfl) (by first | (dsimp only [List.set, List.append, List.cons_append, List.nil_append, splice, AV.cells, List.map, List.map_cons, List.map_nil, List.take, List.drop, Nat.zero_add, Nat.add_zero, Nat.reduceAdd, Nat.reduceMul, Nat.zero_mul, Value.cells, List.toList_toArray, zerosA, List.replicate, List.flatten, List.append_nil]; rfl) | (dsimp only [List.set, List.append, List.cons_append, List.nil_append, splice, AV.cells, List.map, List.map_cons, List.map_nil, List.take, List.drop, Nat.zero_add, Nat.add_zero, Nat.reduceAdd, Nat.reduceMul, Nat.zero_mul, Value.cells, List.toList_toArray, zerosA, List.replicate, List.flatten, List.append_nil]; done) | rfl) (by first | (dsimp only [List.set, List.append, List.cons_append, List.nil_append, splice, AV.cells, List.map, List.map_cons, List.map_nil, List.take, List.drop, Nat.zero_add, Nat.add_zero, Nat.reduceAdd, Nat.reduceMul, Nat.zero_mul, Value.cells, List.toList_toArray, zerosA, List.replicate, List.flatten, List.append_nil]; rfl) | (dsimp only [List.set, List.append, List.cons_append, List.nil_append, splice, AV.cells, List.map, List.map_cons, List.map_nil, List.take, List.drop, Nat.zero_add, Nat.add_zero, Nat.reduceAdd, Nat.reduceMul, Nat.zero_mul, Value.cells, List.toList_toArray, zerosA, List.replicate, List.flatten, List.append_nil]; done) | rfl) ?_) | (refine AO.store (i := 3) rfl rfl rfl rfl rfl rfl (by first | rfl | (simp [AV.cells, AV.one, *]; done) | simp [AV.cells, AV.one, Value.oneCell', *]) (by rfl) (by rfl) (by first | (dsimp only [List.set, List.append, List.cons_append, List.nil_append, splice, AV.cells, List.map, List.map_cons, List.map_nil, List.take, List.drop, Nat.zero_add, Nat.add_zero, Nat.reduceAdd, Nat.reduceMul, Nat.zero_mul, Value.cells, List.toList_toArray, zerosA, List.replicate, List.flatten, List.append_nil]; rfl) | (dsimp only [List.set, List.append, List.cons_append, List.nil_append, splice, AV.cells, List.map, List.map_cons, List.map_nil, List.take, List.drop, Nat.zero_add, Nat.add_zero, Nat.reduceAdd, Nat.reduceMul, Nat.zero_mul, Value.cells, List.toList_toArray, zerosA, List.replicate, List.flatten, List.append_nil]; done) | rfl) (by first | (dsimp only [List.set, List.append, List.cons_append, List.nil_append, splice, AV.cells, List.map, List.map_cons, List.map_nil, List.take, List.drop, Nat.zero_add, Nat.add_zero, Nat.reduceAdd, Nat.reduceMul, Nat.zero_mul, Value.cells, List.toList_toArray, zerosA, List.replicate, List.flatten, List.append_nil]; rfl) | (dsimp only [List.set, List.append, List.cons_append, List.nil_append, splice, AV.cells, List.map, List.map_cons, List.map_nil, List.take, List.drop, Nat.zero_add, Nat.add_zero, Nat.reduceAdd, Nat.reduceMul, Nat.zero_mul, Value.cells, List.toList_toArray, zerosA, List.replicate, List.flatten, List.append_nil]; done) | rfl) ?_) | (refine AO.store (i := 4) rfl rfl rfl rfl rfl rfl (by first | rfl | (simp [AV.cells, AV.one, *]; done) | simp [AV.cells, AV.one, Value.oneCell', *]) (by rfl) (by rfl) (by first | (dsimp only [List.set, List.append, List.cons_append, List.nil_append, splice, AV.cells, List.map, List.map_cons, List.map_nil, List.take, List.drop, Nat.zero_add, Nat.add_zero, Nat.reduceAdd, Nat.reduceMul, Nat.zero_mul, Value.cells, List.toList_toArray, zerosA, List.replicate, List.flatten, List.append_nil]; rfl) | (dsimp only [List.set, List.append, List.cons_append, List.nil_append, splice, AV.cells, List.map, List.map_cons, List.map_nil, List.take, List.drop, Nat.zero_add, Nat.add_zero, Nat.reduceAdd, Nat.reduceMul, Nat.zero_mul, Value.cells, List.toList_toArray, zerosA, List.replicate, List.flatten, List.append_nil]; done) | rfl) (by first | (dsimp only [List.set, List.append, List.cons_append, List.nil_append, splice, AV.cells, List.map, List.map_cons, List.map_nil, List.take, List.drop, Nat.zero_add, Nat.add_zero, Nat.reduceAdd, Nat.reduceMul, Nat.zero_mul, Value.cells, List.toList_toArray, zerosA, List.replicate, List.flatten, List.append_nil]; rfl) | (dsimp only [List.set, List.append, List.cons_append, List.nil_append, splice, AV.cells, List.map, List.map_cons, List.map_nil, List.take, List.drop, Nat.zero_add, Nat.add_zero, Nat.reduceAdd, Nat.reduceMul, Nat.zero_mul, Value.cells, List.toList_toArray, zerosA, List.replicate, List.flatten, List.append_nil]; done) | rfl) ?_) | (refine AO.store (i := 5) rfl rfl rfl rfl rfl rfl (by first | rfl | (simp [AV.cells, AV.one, *]; done) | simp [AV.cells, AV.one, Value.oneCell', *]) (by rfl) (by rfl) (by first | (dsimp only [List.set, List.append, List.cons_append, List.nil_append, splice, AV.cells, List.map, List.map_cons, List.map_nil, List.take, List.drop, Nat.zero_add, Nat.add_zero, Nat.reduceAdd, Nat.reduceMul, Nat.zero_mul, Value.cells, List.toList_toArray, zerosA, List.replicate, List.flatten, List.append_nil]; rfl) | (dsimp only [List.set, List.append, List.cons_append, List.nil_append, splice, AV.cells, List.map, List.map_cons, List.map_nil, List.take, List.drop, Nat.zero_add, Nat.add_zero, Nat.reduceAdd, Nat.reduceMul, Nat.zero_mul, Value.cells, List.toList_toArray, zerosA, List.replicate, List.flatten, List.append_nil]; done) | rfl) (by first | (dsimp only [List.set, List.append, List.cons_append, List.nil_append, splice, AV.cells, List.map, List.map_cons, List.map_nil, List.take, List.drop, Nat.zero_add, Nat.add_zero, Nat.reduceAdd, Nat.reduceMul, Nat.zero_mul, Value.cells, List.toList_toArray, zerosA, List.replicate, List.flatten, List.append_nil]; rfl) | (dsimp only [List.set, List.append, List.cons_append, List.nil_append, splice, AV.cells, List.map, List.map_cons, List.map_nil, List.take, List.drop, Nat.zero_add, Nat.add_zero, Nat.reduceAdd, Nat.reduceMul, Nat.zero_mul, Value.cells, List.toList_toArray, zerosA, List.replicate, List.flatten, List.append_nil]; done) | rfl) ?_)
          refine AO.nil ?_
          refine AQ.thenN ?_
          refine AW.seq ?_
          refine AW.region ?_
          first | (refine AO.op (O.loadRK rfl rfl (by first | exact getW (by assumption) | exact getWT (by assumption) (by omega) | (dsimp only [List.take, List.drop]; rfl)) (by rfl)) rfl rfl rfl ?_) | (refine AO.op (O.loadK rfl rfl (by repeat (first | exact List.Mem.head _ | refine List.Mem.tail _ ?_)) (by first | (dsimp only [List.set, List.append, List.cons_append, List.nil_append, splice, AV.cells, List.map, List.map_cons, List.map_nil, List.take, List.drop, Nat.zero_add, Nat.add_zero, Nat.reduceAdd, Nat.reduceMul, Nat.zero_mul, Value.cells, List.toList_toArray, zerosA, List.replicate, List.flatten, List.append_nil]; rfl) | (dsimp only [List.set, List.append, List.cons_append, List.nil_append, splice, AV.cells, List.map, List.map_cons, List.map_nil, List.take, List.drop, Nat.zero_add, Nat.add_zero, Nat.reduceAdd, Nat.reduceMul, Nat.zero_mul, Value.cells, List.toList_toArray, zerosA, List.replicate, List.flatten, List.append_nil]; done) | rfl) (by rfl)) rfl rfl rfl ?_)
          first | (refine AO.op (O.loadRK rfl rfl (by first | exact getW (by assumption) | exact getWT (by assumption) (by omega) | (dsimp only [List.take, List.drop]; rfl)) (by rfl)) rfl rfl rfl ?_) | (refine AO.op (O.loadK rfl rfl (by repeat (first | exact List.Mem.head _ | refine List.Mem.tail _ ?_)) (by first | (dsimp only [List.set, List.append, List.cons_append, List.nil_append, splice, AV.cells, List.map, List.map_cons, List.map_nil, List.take, List.drop, Nat.zero_add, Nat.add_zero, Nat.reduceAdd, Nat.reduceMul, Nat.zero_mul, Value.cells, List.toList_toArray, zerosA, List.replicate, List.flatten, List.append_nil]; rfl) | (dsimp only [List.set, List.append, List.cons_append, List.nil_append, splice, AV.cells, List.map, List.map_cons, List.map_nil, List.take, List.drop, Nat.zero_add, Nat.add_zero, Nat.reduceAdd, Nat.reduceMul, Nat.zero_mul, Value.cells, List.toList_toArray, zerosA, List.replicate, List.flatten, List.append_nil]; done) | rfl) (by rfl)) rfl rfl rfl ?_)
          refine AO.op (O.call rfl Try.func37 rfl rfl rfl (clash_fn _ _ _ _ _ _ _ _ _ _)) rfl rfl rfl ?_
          refine AO.nil ?_
          refine AQ.thenN ?_
          refine AW.split rfl (fun hm => ?_) (fun hm => ?_)
          · skip
            have hm : meetsW (wat ws j) (wat ws k) = true := hm
            refine AW.seq ?_
            refine AW.region ?_
            refine AO.op (O.assign rfl rfl) rfl rfl rfl ?_
            refine AO.nil ?_
            refine AQ.thenN ?_
            refine AW.ret ?_
            refine AQ.blockR ?_
            refine AQ.thenR ?_
            refine AQ.loopR ?_
            refine AQ.blockR ?_
            refine AQ.blockR ?_
            refine AQ.thenR ?_
            refine AQ.loopR ?_
            refine AQ.blockR ?_
            refine AQ.thenR ?_
            refine AQ.ret1 rfl rfl ⟨_, List.nil_sublist _, .nil⟩ (⟨by rw [valid_no hlt (okAt_no2 hjk hm)]; rfl, rfl⟩)
          · skip
            have hm : meetsW (wat ws j) (wat ws k) = false := hm
            refine AW.skip ?_
            refine AQ.blockN ?_
            refine AQ.thenN ?_
            refine AW.region ?_
            refine AO.op (O.add rfl rfl rfl (by first | exact wI64 (by omega) | rfl)) rfl rfl rfl ?_
            refine AO.op (O.move rfl rfl) rfl rfl rfl ?_
            refine AO.nil ?_
            refine AQ.loopN _ _ _ (by omega) (⟨j + 1, by omega, rfl, allLt hno hm, rfl, rfl⟩) (by repeat (first | exact envNil | refine envCons rfl ?_)) ⟨_, by repeat (first | exact List.Sublist.slnil | refine List.Sublist.cons_cons _ ?_ | refine List.Sublist.cons _ ?_), List.Perm.refl _⟩
        · skip
          have hjk : j = k := by simp at hjk; omega
          subst hjk
          refine AW.exit ?_
          refine AQ.thenX ?_
          refine AQ.loopX ?_
          refine AQ.blockX rfl ?_
          refine AQ.blockN ?_
          refine AQ.thenN ?_
          refine AW.region ?_
          refine AO.op (O.add rfl rfl rfl (by first | exact wI64 (by omega) | rfl)) rfl rfl rfl ?_
          refine AO.op (O.move rfl rfl) rfl rfl rfl ?_
          refine AO.nil ?_
          refine AQ.loopN _ _ _ (by omega) (⟨j + 1, by omega, rfl, by rw [okTo_succ, hok, okAt_yes hs hno]; rfl, rfl, rfl⟩) (by repeat (first | exact envNil | refine envCons rfl ?_)) ⟨_, by repeat (first | exact List.Sublist.slnil | refine List.Sublist.cons_cons _ ?_ | refine List.Sublist.cons _ ?_), List.Perm.refl _⟩
    · skip
      have hlt : k = ws.length := by simp at hlt; omega
      subst hlt
      refine AW.exit ?_
      refine AQ.thenX ?_
      refine AQ.loopX ?_
      refine AQ.blockX rfl ?_
      refine AQ.thenN ?_
      refine AW.seq ?_
      refine AW.region ?_
      refine AO.op (O.assign rfl rfl) rfl rfl rfl ?_
      refine AO.nil ?_
      refine AQ.thenN ?_
      refine AW.ret ?_
      refine AQ.ret1 rfl rfl ⟨_, List.nil_sublist _, .nil⟩ (⟨by simp [ofConst, validW, hlen, hok], rfl⟩)
end Go.Proofs.Ytlcoanbdaephiaa.Ob
