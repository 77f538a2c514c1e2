/-
  Layer 19: the registry's functions.
-/
import Derived.Test.YtlcoanbdaephiaaObC
namespace Go.Proofs.Ytlcoanbdaephiaa.Ob
open Go.RowKit L A
set_option linter.unusedVariables false
set_option linter.unusedSimpArgs false
attribute [local irreducible] AW AQ AO

def newerB (a b c d : Int) : Bool := (decide (a < c) && decide (c - a < 8388608) || decide (c < a) && decide (8388608 < a - c)) || decide (128 < d - b)
set_option maxHeartbeats 1000000 in
theorem newer_fn (a b c d : Int) (h : 0 ≤ a ∧ a < 16777216 ∧ 0 ≤ c ∧ c < 16777216 ∧ -4611686018427387904 ≤ b ∧ b ≤ 4611686018427387903 ∧ -4611686018427387904 ≤ d ∧ d ≤ 4611686018427387903) : Sp Try.prog 21 [.val (.int .i64 a), .val (.int .i64 b), .val (.int .i64 c), .val (.int .i64 d)] [] (Is (.val (.bool (newerB a b c d)))) := by
  obtain ⟨g1, g2, g3, g4, g5, g6, g7, g8⟩ := h
  refine Sp.enter Try.func21 rfl _ Try.ntmps21 rfl (fun w0 R0 => ?_)
  refine AW.seq ?_
  refine AW.region ?_
  refine AO.op (O.assign rfl rfl) rfl rfl rfl ?_
  refine AO.nil ?_
  refine AQ.thenN ?_
  refine AW.seq ?_
  refine AW.region ?_
  refine AO.op (O.move rfl rfl) rfl rfl rfl ?_
  refine AO.op (O.move rfl rfl) rfl rfl rfl ?_
  refine AO.op (O.lss rfl rfl rfl (by first | exact bTrue (by omega) | exact bFalse (by omega) | assumption | rfl)) rfl rfl rfl ?_
  refine AO.op (O.move rfl rfl) rfl rfl rfl ?_
  first | (refine AO.opG rfl rfl rfl (fun hp => O.move rfl rfl) ?_) | (refine AO.op (O.move rfl rfl) rfl rfl rfl ?_) | (refine AO.no rfl rfl rfl ?_)
  first | (refine AO.opG rfl rfl rfl (fun hp => O.move rfl rfl) ?_) | (refine AO.op (O.move rfl rfl) rfl rfl rfl ?_) | (refine AO.no rfl rfl rfl ?_)
  first | (refine AO.opG rfl rfl rfl (fun hp => OpW.force 13 rfl (by first | exact hp | simp_all) (OpW.force 14 rfl (by first | exact hp | simp_all) (O.sub rfl rfl rfl (by first | exact wI64 (by omega) | rfl)))) ?_) | (refine AO.op (O.sub rfl rfl rfl (by first | exact wI64 (by omega) | rfl)) rfl rfl rfl ?_) | (refine AO.no rfl rfl rfl ?_)
  first | (refine AO.opG rfl rfl rfl (fun hp => OpW.force 15 rfl (by first | exact hp | simp_all) (O.lss rfl rfl rfl (by first | exact bTrue (by omega) | exact bFalse (by omega) | assumption | rfl))) ?_) | (refine AO.op (O.lss rfl rfl rfl (by first | exact bTrue (by omega) | exact bFalse (by omega) | assumption | rfl)) rfl rfl rfl ?_) | (refine AO.no rfl rfl rfl ?_)
  first | (refine AO.op (O.pickAnd rfl rfl rfl rfl (fun h => by first | exact h | simp_all)) rfl rfl rfl ?_) | (refine AO.op (O.pickF rfl rfl rfl) rfl rfl rfl ?_) | (refine AO.op (O.pickT rfl rfl rfl) rfl rfl rfl ?_)
  refine AO.op (O.move rfl rfl) rfl rfl rfl ?_
  first | (refine AO.opG rfl rfl rfl (fun hp => O.move rfl rfl) ?_) | (refine AO.op (O.move rfl rfl) rfl rfl rfl ?_) | (refine AO.no rfl rfl rfl ?_)
  first | (refine AO.opG rfl rfl rfl (fun hp => O.move rfl rfl) ?_) | (refine AO.op (O.move rfl rfl) rfl rfl rfl ?_) | (refine AO.no rfl rfl rfl ?_)
  first | (refine AO.opG rfl rfl rfl (fun hp => OpW.force 19 rfl (by first | exact hp | simp_all) (OpW.force 20 rfl (by first | exact hp | simp_all) (O.gtr rfl rfl rfl (by first | exact bTrue (by omega) | exact bFalse (by omega) | assumption | rfl)))) ?_) | (refine AO.op (O.gtr rfl rfl rfl (by first | exact bTrue (by omega) | exact bFalse (by omega) | assumption | rfl)) rfl rfl rfl ?_) | (refine AO.no rfl rfl rfl ?_)
  first | (refine AO.opG rfl rfl rfl (fun hp => OpW.force 21 rfl (by first | exact hp | simp_all) (O.move rfl rfl)) ?_) | (refine AO.op (O.move rfl rfl) rfl rfl rfl ?_) | (refine AO.no rfl rfl rfl ?_)
  first | (refine AO.opG rfl rfl rfl (fun hp => O.move rfl rfl) ?_) | (refine AO.op (O.move rfl rfl) rfl rfl rfl ?_) | (refine AO.no rfl rfl rfl ?_)
  first | (refine AO.opG rfl rfl rfl (fun hp => O.move rfl rfl) ?_) | (refine AO.op (O.move rfl rfl) rfl rfl rfl ?_) | (refine AO.no rfl rfl rfl ?_)
  first | (refine AO.opG rfl rfl rfl (fun hp => OpW.force 23 rfl (by first | exact hp | simp_all) (OpW.force 24 rfl (by first | exact hp | simp_all) (O.sub rfl rfl rfl (by first | exact wI64 (by omega) | rfl)))) ?_) | (refine AO.op (O.sub rfl rfl rfl (by first | exact wI64 (by omega) | rfl)) rfl rfl rfl ?_) | (refine AO.no rfl rfl rfl ?_)
  first | (refine AO.opG rfl rfl rfl (fun hp => OpW.force 25 rfl (by first | exact hp | simp_all) (O.gtr rfl rfl rfl (by first | exact bTrue (by omega) | exact bFalse (by omega) | assumption | rfl))) ?_) | (refine AO.op (O.gtr rfl rfl rfl (by first | exact bTrue (by omega) | exact bFalse (by omega) | assumption | rfl)) rfl rfl rfl ?_) | (refine AO.no rfl rfl rfl ?_)
  first | (refine AO.opG rfl rfl rfl (fun hp => OpW.force 22 rfl (by first | exact hp | simp_all) (O.pickAnd rfl rfl rfl rfl (fun h => by first | exact h | simp_all))) ?_) | (refine AO.opG rfl rfl rfl (fun hp => OpW.force 22 rfl (by first | exact hp | simp_all) (O.pickF rfl rfl rfl)) ?_) | (refine AO.opG rfl rfl rfl (fun hp => OpW.force 22 rfl (by first | exact hp | simp_all) (O.pickT rfl rfl rfl)) ?_) | (refine AO.op (O.pickAnd rfl rfl rfl rfl (fun h => by first | exact h | simp_all)) rfl rfl rfl ?_) | (refine AO.op (O.pickF rfl rfl rfl) rfl rfl rfl ?_) | (refine AO.op (O.pickT rfl rfl rfl) rfl rfl rfl ?_) | (refine AO.no rfl rfl rfl ?_)
  first | (refine AO.op (O.pickOr rfl rfl rfl rfl (fun h => by first | exact congrArg (fun b => !b) h | simp_all)) rfl rfl rfl ?_) | (refine AO.op (O.pickT rfl rfl rfl) rfl rfl rfl ?_) | (refine AO.op (O.pickF rfl rfl rfl) rfl rfl rfl ?_)
  refine AO.op (O.move rfl rfl) rfl rfl rfl ?_
  first | (refine AO.opG rfl rfl rfl (fun hp => O.move rfl rfl) ?_) | (refine AO.op (O.move rfl rfl) rfl rfl rfl ?_) | (refine AO.no rfl rfl rfl ?_)
  first | (refine AO.opG rfl rfl rfl (fun hp => O.move rfl rfl) ?_) | (refine AO.op (O.move rfl rfl) rfl rfl rfl ?_) | (refine AO.no rfl rfl rfl ?_)
  first | (refine AO.opG rfl rfl rfl (fun hp => OpW.force 30 rfl (by first | exact hp | simp_all) (OpW.force 31 rfl (by first | exact hp | simp_all) (O.sub rfl rfl rfl (by first | exact wI64 (by omega) | rfl)))) ?_) | (refine AO.op (O.sub rfl rfl rfl (by first | exact wI64 (by omega) | rfl)) rfl rfl rfl ?_) | (refine AO.no rfl rfl rfl ?_)
  first | (refine AO.opG rfl rfl rfl (fun hp => OpW.force 32 rfl (by first | exact hp | simp_all) (O.gtr rfl rfl rfl (by first | exact bTrue (by omega) | exact bFalse (by omega) | assumption | rfl))) ?_) | (refine AO.op (O.gtr rfl rfl rfl (by first | exact bTrue (by omega) | exact bFalse (by omega) | assumption | rfl)) rfl rfl rfl ?_) | (refine AO.no rfl rfl rfl ?_)
  first | (refine AO.op (O.pickOr rfl rfl rfl rfl (fun h => by first | exact congrArg (fun b => !b) h | simp_all)) rfl rfl rfl ?_) | (refine AO.op (O.pickT rfl rfl rfl) rfl rfl rfl ?_) | (refine AO.op (O.pickF rfl rfl rfl) rfl rfl rfl ?_)
  refine AO.op (O.assign rfl rfl) rfl rfl rfl ?_
  refine AO.nil ?_
  refine AQ.thenN ?_
  refine AW.ret ?_
  refine AQ.ret1 rfl rfl ⟨_, List.nil_sublist _, .nil⟩ (⟨by simp [newerB], rfl⟩)
set_option maxHeartbeats 1000000 in
theorem rnewer_fn (a b c d : Int) (h : 0 ≤ a ∧ a < 16777216 ∧ 0 ≤ c ∧ c < 16777216 ∧ -4611686018427387904 ≤ b ∧ b ≤ 4611686018427387903 ∧ -4611686018427387904 ≤ d ∧ d ≤ 4611686018427387903) : Sp Try.prog 22 [.val (.int .i64 a), .val (.int .i64 b), .val (.int .i64 c), .val (.int .i64 d)] [] (Is (.val (.bool (newerB a b c d)))) := by
  obtain ⟨g1, g2, g3, g4, g5, g6, g7, g8⟩ := h
  refine Sp.enter Try.func22 rfl _ Try.ntmps22 rfl (fun w0 R0 => ?_)
  refine AW.seq ?_
  refine AW.region ?_
  refine AO.op (O.assign rfl rfl) rfl rfl rfl ?_
  refine AO.nil ?_
  refine AQ.thenN ?_
  refine AW.seq ?_
  refine AW.region ?_
  refine AO.op (O.move rfl rfl) rfl rfl rfl ?_
  refine AO.op (O.move rfl rfl) rfl rfl rfl ?_
  refine AO.op (O.lss rfl rfl rfl (by first | exact bTrue (by omega) | exact bFalse (by omega) | assumption | rfl)) rfl rfl rfl ?_
  refine AO.op (O.move rfl rfl) rfl rfl rfl ?_
  first | (refine AO.opG rfl rfl rfl (fun hp => O.move rfl rfl) ?_) | (refine AO.op (O.move rfl rfl) rfl rfl rfl ?_) | (refine AO.no rfl rfl rfl ?_)
  first | (refine AO.opG rfl rfl rfl (fun hp => O.move rfl rfl) ?_) | (refine AO.op (O.move rfl rfl) rfl rfl rfl ?_) | (refine AO.no rfl rfl rfl ?_)
  first | (refine AO.opG rfl rfl rfl (fun hp => OpW.force 13 rfl (by first | exact hp | simp_all) (OpW.force 14 rfl (by first | exact hp | simp_all) (O.sub rfl rfl rfl (by first | exact wI64 (by omega) | rfl)))) ?_) | (refine AO.op (O.sub rfl rfl rfl (by first | exact wI64 (by omega) | rfl)) rfl rfl rfl ?_) | (refine AO.no rfl rfl rfl ?_)
  first | (refine AO.opG rfl rfl rfl (fun hp => OpW.force 15 rfl (by first | exact hp | simp_all) (O.lss rfl rfl rfl (by first | exact bTrue (by omega) | exact bFalse (by omega) | assumption | rfl))) ?_) | (refine AO.op (O.lss rfl rfl rfl (by first | exact bTrue (by omega) | exact bFalse (by omega) | assumption | rfl)) rfl rfl rfl ?_) | (refine AO.no rfl rfl rfl ?_)
  first | (refine AO.op (O.pickAnd rfl rfl rfl rfl (fun h => by first | exact h | simp_all)) rfl rfl rfl ?_) | (refine AO.op (O.pickF rfl rfl rfl) rfl rfl rfl ?_) | (refine AO.op (O.pickT rfl rfl rfl) rfl rfl rfl ?_)
  refine AO.op (O.move rfl rfl) rfl rfl rfl ?_
  first | (refine AO.opG rfl rfl rfl (fun hp => O.move rfl rfl) ?_) | (refine AO.op (O.move rfl rfl) rfl rfl rfl ?_) | (refine AO.no rfl rfl rfl ?_)
  first | (refine AO.opG rfl rfl rfl (fun hp => O.move rfl rfl) ?_) | (refine AO.op (O.move rfl rfl) rfl rfl rfl ?_) | (refine AO.no rfl rfl rfl ?_)
  first | (refine AO.opG rfl rfl rfl (fun hp => OpW.force 19 rfl (by first | exact hp | simp_all) (OpW.force 20 rfl (by first | exact hp | simp_all) (O.gtr rfl rfl rfl (by first | exact bTrue (by omega) | exact bFalse (by omega) | assumption | rfl)))) ?_) | (refine AO.op (O.gtr rfl rfl rfl (by first | exact bTrue (by omega) | exact bFalse (by omega) | assumption | rfl)) rfl rfl rfl ?_) | (refine AO.no rfl rfl rfl ?_)
  first | (refine AO.opG rfl rfl rfl (fun hp => OpW.force 21 rfl (by first | exact hp | simp_all) (O.move rfl rfl)) ?_) | (refine AO.op (O.move rfl rfl) rfl rfl rfl ?_) | (refine AO.no rfl rfl rfl ?_)
  first | (refine AO.opG rfl rfl rfl (fun hp => O.move rfl rfl) ?_) | (refine AO.op (O.move rfl rfl) rfl rfl rfl ?_) | (refine AO.no rfl rfl rfl ?_)
  first | (refine AO.opG rfl rfl rfl (fun hp => O.move rfl rfl) ?_) | (refine AO.op (O.move rfl rfl) rfl rfl rfl ?_) | (refine AO.no rfl rfl rfl ?_)
  first | (refine AO.opG rfl rfl rfl (fun hp => OpW.force 23 rfl (by first | exact hp | simp_all) (OpW.force 24 rfl (by first | exact hp | simp_all) (O.sub rfl rfl rfl (by first | exact wI64 (by omega) | rfl)))) ?_) | (refine AO.op (O.sub rfl rfl rfl (by first | exact wI64 (by omega) | rfl)) rfl rfl rfl ?_) | (refine AO.no rfl rfl rfl ?_)
  first | (refine AO.opG rfl rfl rfl (fun hp => OpW.force 25 rfl (by first | exact hp | simp_all) (O.gtr rfl rfl rfl (by first | exact bTrue (by omega) | exact bFalse (by omega) | assumption | rfl))) ?_) | (refine AO.op (O.gtr rfl rfl rfl (by first | exact bTrue (by omega) | exact bFalse (by omega) | assumption | rfl)) rfl rfl rfl ?_) | (refine AO.no rfl rfl rfl ?_)
  first | (refine AO.opG rfl rfl rfl (fun hp => OpW.force 22 rfl (by first | exact hp | simp_all) (O.pickAnd rfl rfl rfl rfl (fun h => by first | exact h | simp_all))) ?_) | (refine AO.opG rfl rfl rfl (fun hp => OpW.force 22 rfl (by first | exact hp | simp_all) (O.pickF rfl rfl rfl)) ?_) | (refine AO.opG rfl rfl rfl (fun hp => OpW.force 22 rfl (by first | exact hp | simp_all) (O.pickT rfl rfl rfl)) ?_) | (refine AO.op (O.pickAnd rfl rfl rfl rfl (fun h => by first | exact h | simp_all)) rfl rfl rfl ?_) | (refine AO.op (O.pickF rfl rfl rfl) rfl rfl rfl ?_) | (refine AO.op (O.pickT rfl rfl rfl) rfl rfl rfl ?_) | (refine AO.no rfl rfl rfl ?_)
  first | (refine AO.op (O.pickOr rfl rfl rfl rfl (fun h => by first | exact congrArg (fun b => !b) h | simp_all)) rfl rfl rfl ?_) | (refine AO.op (O.pickT rfl rfl rfl) rfl rfl rfl ?_) | (refine AO.op (O.pickF rfl rfl rfl) rfl rfl rfl ?_)
  refine AO.op (O.move rfl rfl) rfl rfl rfl ?_
  first | (refine AO.opG rfl rfl rfl (fun hp => O.move rfl rfl) ?_) | (refine AO.op (O.move rfl rfl) rfl rfl rfl ?_) | (refine AO.no rfl rfl rfl ?_)
  first | (refine AO.opG rfl rfl rfl (fun hp => O.move rfl rfl) ?_) | (refine AO.op (O.move rfl rfl) rfl rfl rfl ?_) | (refine AO.no rfl rfl rfl ?_)
  first | (refine AO.opG rfl rfl rfl (fun hp => OpW.force 30 rfl (by first | exact hp | simp_all) (OpW.force 31 rfl (by first | exact hp | simp_all) (O.sub rfl rfl rfl (by first | exact wI64 (by omega) | rfl)))) ?_) | (refine AO.op (O.sub rfl rfl rfl (by first | exact wI64 (by omega) | rfl)) rfl rfl rfl ?_) | (refine AO.no rfl rfl rfl ?_)
  first | (refine AO.opG rfl rfl rfl (fun hp => OpW.force 32 rfl (by first | exact hp | simp_all) (O.gtr rfl rfl rfl (by first | exact bTrue (by omega) | exact bFalse (by omega) | assumption | rfl))) ?_) | (refine AO.op (O.gtr rfl rfl rfl (by first | exact bTrue (by omega) | exact bFalse (by omega) | assumption | rfl)) rfl rfl rfl ?_) | (refine AO.no rfl rfl rfl ?_)
  first | (refine AO.op (O.pickOr rfl rfl rfl rfl (fun h => by first | exact congrArg (fun b => !b) h | simp_all)) rfl rfl rfl ?_) | (refine AO.op (O.pickT rfl rfl rfl) rfl rfl rfl ?_) | (refine AO.op (O.pickF rfl rfl rfl) rfl rfl rfl ?_)
  refine AO.op (O.assign rfl rfl) rfl rfl rfl ?_
  refine AO.nil ?_
  refine AQ.thenN ?_
  refine AW.ret ?_
  refine AQ.ret1 rfl rfl ⟨_, List.nil_sublist _, .nil⟩ (⟨by simp [newerB], rfl⟩)

theorem c1_fn (p : Int) (tk ky : List UInt8) (s t : Int) (p' : Int) (tk' ky' : List UInt8) (s' t' : Int) : Sp Try.prog 39 [.agg (cellsW p tk ky s t), .rp (cellsW p' tk' ky' s' t') 0] [] (Is (.val (.bool (!meetsB p tk ky p' tk' ky')))) := by
  refine Sp.enter Try.func39 rfl _ Try.ntmps39 rfl (fun w0 R0 => ?_)
  refine AW.seq ?_
  refine AW.region ?_
  refine AO.opB (O.box rfl rfl rfl rfl rfl) rfl rfl rfl ?_
  intro B
  refine AO.op (O.assign rfl rfl) rfl rfl rfl ?_
  refine AO.nil ?_
  refine AQ.thenN ?_
  refine AW.seq ?_
  refine AW.region ?_
  first | (refine AO.op (O.loadRK rfl rfl (by rfl) (by rfl)) rfl rfl rfl ?_) | (refine AO.op (O.loadK rfl rfl (by repeat (first | exact List.Mem.head _ | refine List.Mem.tail _ ?_)) (by first | (dsimp only [List.set, List.append, List.cons_append, List.nil_append, splice, AV.cells, List.map, List.map_cons, List.map_nil, List.take, List.drop, Nat.zero_add, Nat.add_zero, Nat.reduceAdd, Nat.reduceMul, Nat.zero_mul, Value.cells, List.toList_toArray, zerosA, List.replicate, List.flatten, List.append_nil]; rfl) | (dsimp only [List.set, List.append, List.cons_append, List.nil_append, splice, AV.cells, List.map, List.map_cons, List.map_nil, List.take, List.drop, Nat.zero_add, Nat.add_zero, Nat.reduceAdd, Nat.reduceMul, Nat.zero_mul, Value.cells, List.toList_toArray, zerosA, List.replicate, List.flatten, List.append_nil]; done) | rfl) (by rfl)) rfl rfl rfl ?_)
  first | (refine AO.op (O.loadRK rfl rfl (by rfl) (by rfl)) rfl rfl rfl ?_) | (refine AO.op (O.loadK rfl rfl (by repeat (first | exact List.Mem.head _ | refine List.Mem.tail _ ?_)) (by first | (dsimp only [List.set, List.append, List.cons_append, List.nil_append, splice, AV.cells, List.map, List.map_cons, List.map_nil, List.take, List.drop, Nat.zero_add, Nat.add_zero, Nat.reduceAdd, Nat.reduceMul, Nat.zero_mul, Value.cells, List.toList_toArray, zerosA, List.replicate, List.flatten, List.append_nil]; rfl) | (dsimp only [List.set, List.append, List.cons_append, List.nil_append, splice, AV.cells, List.map, List.map_cons, List.map_nil, List.take, List.drop, Nat.zero_add, Nat.add_zero, Nat.reduceAdd, Nat.reduceMul, Nat.zero_mul, Value.cells, List.toList_toArray, zerosA, List.replicate, List.flatten, List.append_nil]; done) | rfl) (by rfl)) rfl rfl rfl ?_)
  refine AO.op (O.call rfl Try.func35 rfl rfl rfl (meets_fn _ _ _ _ _ _ _ _ _ _)) rfl rfl rfl ?_
  refine AO.op (O.not rfl rfl (by first | assumption | rfl)) rfl rfl rfl ?_
  refine AO.op (O.assign rfl rfl) rfl rfl rfl ?_
  refine AO.nil ?_
  refine AQ.thenN ?_
  refine AW.ret ?_
  refine AQ.ret1 rfl rfl ⟨_, List.nil_sublist _, .nil⟩ (⟨rfl, rfl⟩)
theorem c2_fn (p : Int) (tk ky : List UInt8) (s t : Int) (q : Int) (tk' : List UInt8) : Sp Try.prog 42 [.agg (cellsW p tk ky s t), .rp [.val (.int .i64 q)] 0, .rp [roB tk'] 0] [] (Is (.val (.bool (p != q || !(tk == tk'))))) := by
  refine Sp.enter Try.func42 rfl _ Try.ntmps42 rfl (fun w0 R0 => ?_)
  refine AW.seq ?_
  refine AW.region ?_
  refine AO.opB (O.box rfl rfl rfl rfl rfl) rfl rfl rfl ?_
  intro B
  refine AO.op (O.assign rfl rfl) rfl rfl rfl ?_
  refine AO.nil ?_
  refine AQ.thenN ?_
  refine AW.seq ?_
  refine AW.region ?_
  first | (refine AO.op (O.fieldAddrR rfl rfl) rfl rfl rfl ?_) | (refine AO.op (O.fieldAddr rfl rfl) rfl rfl rfl ?_)
  first | (refine AO.op (O.loadR rfl rfl (by first | exact getWK | rfl)) rfl rfl rfl ?_) | (refine AO.op (O.load rfl rfl (by repeat (first | exact List.Mem.head _ | refine List.Mem.tail _ ?_)) (by first | exact getWK | rfl)) rfl rfl rfl ?_)
  first | (refine AO.op (O.loadR rfl rfl (by first | exact getWK | rfl)) rfl rfl rfl ?_) | (refine AO.op (O.load rfl rfl (by repeat (first | exact List.Mem.head _ | refine List.Mem.tail _ ?_)) (by first | exact getWK | rfl)) rfl rfl rfl ?_)
  refine AO.op (O.neq rfl rfl rfl (by first | exact bne_iff_ne.2 (by omega) | exact bne_eq_false_iff_eq.2 (by omega) | assumption | rfl)) rfl rfl rfl ?_
  refine AO.op (O.move rfl rfl) rfl rfl rfl ?_
  first | (refine AO.opG rfl rfl rfl (fun hp => O.fieldAddrR rfl rfl) ?_) | (refine AO.opG rfl rfl rfl (fun hp => O.fieldAddr rfl rfl) ?_) | (refine AO.op (O.fieldAddrR rfl rfl) rfl rfl rfl ?_) | (refine AO.op (O.fieldAddr rfl rfl) rfl rfl rfl ?_) | (refine AO.no rfl rfl rfl ?_)
  first | (refine AO.opG rfl rfl rfl (fun hp => OpW.force 10 rfl (by first | exact hp | simp_all) (O.loadR rfl rfl (by first | exact getWK | rfl))) ?_) | (refine AO.opG rfl rfl rfl (fun hp => OpW.force 10 rfl (by first | exact hp | simp_all) (O.load rfl rfl (by repeat (first | exact List.Mem.head _ | refine List.Mem.tail _ ?_)) (by first | exact getWK | rfl))) ?_) | (refine AO.op (O.loadR rfl rfl (by first | exact getWK | rfl)) rfl rfl rfl ?_) | (refine AO.op (O.load rfl rfl (by repeat (first | exact List.Mem.head _ | refine List.Mem.tail _ ?_)) (by first | exact getWK | rfl)) rfl rfl rfl ?_) | (refine AO.no rfl rfl rfl ?_)
  first | (refine AO.opG rfl rfl rfl (fun hp => O.loadR rfl rfl (by first | exact getWK | rfl)) ?_) | (refine AO.opG rfl rfl rfl (fun hp => O.load rfl rfl (by repeat (first | exact List.Mem.head _ | refine List.Mem.tail _ ?_)) (by first | exact getWK | rfl)) ?_) | (refine AO.op (O.loadR rfl rfl (by first | exact getWK | rfl)) rfl rfl rfl ?_) | (refine AO.op (O.load rfl rfl (by repeat (first | exact List.Mem.head _ | refine List.Mem.tail _ ?_)) (by first | exact getWK | rfl)) rfl rfl rfl ?_) | (refine AO.no rfl rfl rfl ?_)
  first | (refine AO.opG rfl rfl rfl (fun hp => OpW.force 11 rfl (by first | exact hp | simp_all) (OpW.force 12 rfl (by first | exact hp | simp_all) (O.call rfl Try.func43 rfl rfl rfl (equal_fn _ _)))) ?_) | (refine AO.op (O.call rfl Try.func43 rfl rfl rfl (equal_fn _ _)) rfl rfl rfl ?_) | (refine AO.no rfl rfl rfl ?_)
  first | (refine AO.opG rfl rfl rfl (fun hp => OpW.force 13 rfl (by first | exact hp | simp_all) (O.not rfl rfl (by first | assumption | rfl))) ?_) | (refine AO.op (O.not rfl rfl (by first | assumption | rfl)) rfl rfl rfl ?_) | (refine AO.no rfl rfl rfl ?_)
  first | (refine AO.op (O.pickOr rfl rfl rfl rfl (fun h => by first | exact congrArg (fun b => !b) h | simp_all)) rfl rfl rfl ?_) | (refine AO.op (O.pickT rfl rfl rfl) rfl rfl rfl ?_) | (refine AO.op (O.pickF rfl rfl rfl) rfl rfl rfl ?_)
  refine AO.op (O.assign rfl rfl) rfl rfl rfl ?_
  refine AO.nil ?_
  refine AQ.thenN ?_
  refine AW.ret ?_
  refine AQ.ret1 rfl rfl ⟨_, List.nil_sublist _, .nil⟩ (⟨rfl, rfl⟩)
theorem c3_fn (p : Int) (tk ky : List UInt8) (s t : Int) (q : Int) : Sp Try.prog 44 [.agg (cellsW p tk ky s t), .rp [.val (.int .i64 q)] 0] [] (Is (.val (.bool (p != q)))) := by
  refine Sp.enter Try.func44 rfl _ Try.ntmps44 rfl (fun w0 R0 => ?_)
  refine AW.seq ?_
  refine AW.region ?_
  refine AO.opB (O.box rfl rfl rfl rfl rfl) rfl rfl rfl ?_
  intro B
  refine AO.op (O.assign rfl rfl) rfl rfl rfl ?_
  refine AO.nil ?_
  refine AQ.thenN ?_
  refine AW.seq ?_
  refine AW.region ?_
  first | (refine AO.op (O.fieldAddrR rfl rfl) rfl rfl rfl ?_) | (refine AO.op (O.fieldAddr rfl rfl) rfl rfl rfl ?_)
  first | (refine AO.op (O.loadR rfl rfl (by first | exact getWK | rfl)) rfl rfl rfl ?_) | (refine AO.op (O.load rfl rfl (by repeat (first | exact List.Mem.head _ | refine List.Mem.tail _ ?_)) (by first | exact getWK | rfl)) rfl rfl rfl ?_)
  first | (refine AO.op (O.loadR rfl rfl (by first | exact getWK | rfl)) rfl rfl rfl ?_) | (refine AO.op (O.load rfl rfl (by repeat (first | exact List.Mem.head _ | refine List.Mem.tail _ ?_)) (by first | exact getWK | rfl)) rfl rfl rfl ?_)
  refine AO.op (O.neq rfl rfl rfl (by first | exact bne_iff_ne.2 (by omega) | exact bne_eq_false_iff_eq.2 (by omega) | assumption | rfl)) rfl rfl rfl ?_
  refine AO.op (O.assign rfl rfl) rfl rfl rfl ?_
  refine AO.nil ?_
  refine AQ.thenN ?_
  refine AW.ret ?_
  refine AQ.ret1 rfl rfl ⟨_, List.nil_sublist _, .nil⟩ (⟨rfl, rfl⟩)
theorem c4_fn (p : Int) (tk ky : List UInt8) (s t : Int) : Sp Try.prog 45 [.agg (cellsW p tk ky s t)] [] (Is (.val (.bool true))) := by
  refine Sp.enter Try.func45 rfl _ Try.ntmps45 rfl (fun w0 R0 => ?_)
  refine AW.seq ?_
  refine AW.region ?_
  refine AO.opB (O.box rfl rfl rfl rfl rfl) rfl rfl rfl ?_
  intro B
  refine AO.op (O.assign rfl rfl) rfl rfl rfl ?_
  refine AO.nil ?_
  refine AQ.thenN ?_
  refine AW.seq ?_
  refine AW.region ?_
  refine AO.op (O.assign rfl rfl) rfl rfl rfl ?_
  refine AO.nil ?_
  refine AQ.thenN ?_
  refine AW.ret ?_
  refine AQ.ret1 rfl rfl ⟨_, List.nil_sublist _, .nil⟩ (⟨rfl, rfl⟩)
theorem c5_fn (p : Int) (tk ky : List UInt8) (s t : Int) (ky' : List UInt8) : Sp Try.prog 46 [.agg (cellsW p tk ky s t), .rp [roB ky'] 0] [] (Is (.val (.bool (ky == ky')))) := by
  refine Sp.enter Try.func46 rfl _ Try.ntmps46 rfl (fun w0 R0 => ?_)
  refine AW.seq ?_
  refine AW.region ?_
  refine AO.opB (O.box rfl rfl rfl rfl rfl) rfl rfl rfl ?_
  intro B
  refine AO.op (O.assign rfl rfl) rfl rfl rfl ?_
  refine AO.nil ?_
  refine AQ.thenN ?_
  refine AW.seq ?_
  refine AW.region ?_
  first | (refine AO.op (O.fieldAddrR rfl rfl) rfl rfl rfl ?_) | (refine AO.op (O.fieldAddr rfl rfl) rfl rfl rfl ?_)
  first | (refine AO.op (O.loadR rfl rfl (by first | exact getWK | rfl)) rfl rfl rfl ?_) | (refine AO.op (O.load rfl rfl (by repeat (first | exact List.Mem.head _ | refine List.Mem.tail _ ?_)) (by first | exact getWK | rfl)) rfl rfl rfl ?_)
  first | (refine AO.op (O.loadR rfl rfl (by first | exact getWK | rfl)) rfl rfl rfl ?_) | (refine AO.op (O.load rfl rfl (by repeat (first | exact List.Mem.head _ | refine List.Mem.tail _ ?_)) (by first | exact getWK | rfl)) rfl rfl rfl ?_)
  refine AO.op (O.call rfl Try.func43 rfl rfl rfl (equal_fn _ _)) rfl rfl rfl ?_
  refine AO.op (O.assign rfl rfl) rfl rfl rfl ?_
  refine AO.nil ?_
  refine AQ.thenN ?_
  refine AW.ret ?_
  refine AQ.ret1 rfl rfl ⟨_, List.nil_sublist _, .nil⟩ (⟨rfl, rfl⟩)

/-- Lists that are not long. -/
def Short (ws : List Watch) : Prop := ws.length ≤ 1000000 ∧ ∀ w ∈ ws, w.tok.length ≤ 4294967296 ∧ w.key.length ≤ 4294967296
theorem Short.at {ws : List Watch} (h : Short ws) {k : Nat} (hk : k < ws.length) : (wat ws k).tok.length ≤ 4294967296 ∧ (wat ws k).key.length ≤ 4294967296 := by
  have : wat ws k = ws[k] := by simp [wat, hk]
  rw [this]; exact h.2 _ (List.getElem_mem hk)

def keptTo (K : Watch → Bool) (ws : List Watch) (k : Nat) : List Watch := (ws.take k).filter K
theorem keptTo_succ {K : Watch → Bool} {ws : List Watch} {k : Nat} (h : k < ws.length) : keptTo K ws (k + 1) = keptTo K ws k ++ if K (wat ws k) = true then [wat ws k] else [] := by
  have : wat ws k = ws[k] := by simp [wat, h]
  rw [this, keptTo, List.take_succ_eq_append_getElem h, List.filter_append]
  by_cases hk : K ws[k] = true <;> simp [keptTo, hk]
theorem keptTo_le (K : Watch → Bool) (ws : List Watch) (k : Nat) : (keptTo K ws k).length ≤ k := by
  have h1 := List.length_filter_le K (ws.take k)
  have h2 := List.length_take_le k ws
  unfold keptTo; omega
theorem keptTo_all (K : Watch → Bool) (ws : List Watch) : keptTo K ws ws.length = ws.filter K := by simp [keptTo]
theorem watchesA_one (ws : List Watch) : (watchesA ws).all AV.one = true := by
  induction ws with
  | nil => rfl
  | cons w ws ih => rw [watchesA_cons, List.all_append, ih]; rfl

set_option maxHeartbeats 1000000 in
theorem filter_fn (ws : List Watch) (hsh : Short ws) (K : Watch → Bool) (f : FuncId) (caps : List AV) (g : Func) (hf : Try.prog.funcs[f]? = some g) (hn : (g.name == "runtime.NumGoroutine") = false) (hb : g.body.isNone = false)
    (hk : ∀ p tk ky s t, Sp Try.prog f ([.agg (cellsW p tk ky s t)] ++ caps) [] (Is (.val (.bool (K ⟨p, tk, ky, s, t⟩))))) :
    Sp Try.prog 38 [roW ws, .fn (.func f) caps] [] (NewRow 58 5 (ws.filter K).length (watchesA (ws.filter K))) := by
  have hlen := hsh.1
  refine Sp.enter Try.func38 rfl _ Try.ntmps38 rfl (fun w0 R0 => ?_)
  refine AW.seq ?_
  refine AW.region ?_
  refine AO.op (O.assign rfl rfl) rfl rfl rfl ?_
  refine AO.nil ?_
  refine AQ.thenN ?_
  refine AW.seq ?_
  refine AW.region ?_
  refine AO.op (O.assign rfl rfl) rfl rfl rfl ?_
  refine AO.nil ?_
  refine AQ.thenN ?_
  refine AW.seq ?_
  refine AW.seq ?_
  refine AW.region ?_
  refine AO.op (O.move rfl rfl) rfl rfl rfl ?_
  first | (refine AO.op (O.lenR rfl rfl) rfl rfl rfl ?_) | (refine AO.op (O.lenV rfl rfl) rfl rfl rfl ?_) | (refine AO.op (O.lenRow rfl rfl (by repeat (first | exact List.Mem.head _ | refine List.Mem.tail _ ?_))) rfl rfl rfl ?_) | (refine AO.op (O.lenS rfl rfl) rfl rfl rfl ?_)
  refine AO.op (O.move rfl rfl) rfl rfl rfl ?_
  refine AO.nil ?_
  refine AQ.thenN ?_
  refine AW.block ?_
  refine AW.g ?_
  refine G.nilRow 58 5 ?_
  refine AW.u ?_
  refine AW.loop (fun n E H => ∃ (k : Nat) (V : Value), k ≤ ws.length ∧ V.oneCell' = true ∧ n = ws.length - k ∧ E = [(1, .fn (.func f) caps), (5, .val V), (8, roW ws), (9, .val (.int .i64 (ws.length : Int))), (10, .val (.int .i64 (k : Int)))] ∧ H = [.row V 58 5 (keptTo K ws k).length (watchesA (keptTo K ws k))]) (ws.length) (⟨0, .slice none 0 0, by omega, rfl, rfl, rfl, rfl⟩) (by repeat (first | exact envNil | refine envCons rfl ?_)) ⟨_, by repeat (first | exact List.Sublist.slnil | refine List.Sublist.cons_cons _ ?_ | refine List.Sublist.cons _ ?_), List.Perm.refl _⟩ ?_
  rintro n E H ⟨k, V0, hk1, hV0, rfl, rfl, rfl⟩
  refine AW.seq ?_
  refine AW.region ?_
  refine AO.op (O.lss rfl rfl rfl (by first | exact bTrue (by omega) | exact bFalse (by omega) | assumption | rfl)) rfl rfl rfl ?_
  refine AO.nil ?_
  refine AQ.thenN ?_
  refine AW.seq ?_
  refine AW.split rfl (fun hlt => ?_) (fun hlt => ?_)
  · skip
    have hlt : k < ws.length := by simpa using hlt
    have hle := keptTo_le K ws k
    refine AW.skip ?_
    refine AQ.thenN ?_
    refine AW.seq ?_
    refine AW.block ?_
    refine AW.seq ?_
    refine AW.region ?_
    first | (refine AO.op (O.idxR rfl rfl rfl ⟨by omega, by omega⟩) rfl rfl rfl ?_) | (refine AO.op (O.idxV rfl rfl rfl ⟨by omega, by omega⟩) rfl rfl rfl ?_)
    first | (refine AO.op (O.loadRK rfl rfl (by first | exact getW (by assumption) | (dsimp only [List.take, List.drop]; rfl)) (by rfl)) rfl rfl rfl ?_) | (refine AO.op (O.loadK rfl rfl (by repeat (first | exact List.Mem.head _ | refine List.Mem.tail _ ?_)) (by first | (dsimp only [List.set, List.append, List.cons_append, List.nil_append, splice, AV.cells, List.map, List.map_cons, List.map_nil, List.take, List.drop, Nat.zero_add, Nat.add_zero, Nat.reduceAdd, Nat.reduceMul, Nat.zero_mul, Value.cells, List.toList_toArray, zerosA, List.replicate, List.flatten, List.append_nil]; rfl) | (dsimp only [List.set, List.append, List.cons_append, List.nil_append, splice, AV.cells, List.map, List.map_cons, List.map_nil, List.take, List.drop, Nat.zero_add, Nat.add_zero, Nat.reduceAdd, Nat.reduceMul, Nat.zero_mul, Value.cells, List.toList_toArray, zerosA, List.replicate, List.flatten, List.append_nil]; done) | rfl) (by rfl)) rfl rfl rfl ?_)
    refine AO.opB (O.alloc rfl (by first | (dsimp only [List.set, List.append, List.cons_append, List.nil_append, splice, AV.cells, List.map, List.map_cons, List.map_nil, List.take, List.drop, Nat.zero_add, Nat.add_zero, Nat.reduceAdd, Nat.reduceMul, Nat.zero_mul, Value.cells, List.toList_toArray, zerosA, List.replicate, List.flatten, List.append_nil]; rfl) | (dsimp only [List.set, List.append, List.cons_append, List.nil_append, splice, AV.cells, List.map, List.map_cons, List.map_nil, List.take, List.drop, Nat.zero_add, Nat.add_zero, Nat.reduceAdd, Nat.reduceMul, Nat.zero_mul, Value.cells, List.toList_toArray, zerosA, List.replicate, List.flatten, List.append_nil]; done) | rfl) (by rfl)) rfl rfl rfl ?_
    intro B
    first | (refine AO.store (i := 0) rfl rfl rfl rfl rfl rfl (by first | rfl | (simp [AV.cells, AV.one, *]; done) | simp [AV.cells, AV.one, Value.oneCell', *]) (by rfl) (by rfl) (by first | (dsimp only [List.set, List.append, List.cons_append, List.nil_append, splice, AV.cells, List.map, List.map_cons, List.map_nil, List.take, List.drop, Nat.zero_add, Nat.add_zero, Nat.reduceAdd, Nat.reduceMul, Nat.zero_mul, Value.cells, List.toList_toArray, zerosA, List.replicate, List.flatten, List.append_nil]; rfl) | (dsimp only [List.set, List.append, List.cons_append, List.nil_append, splice, AV.cells, List.map, List.map_cons, List.map_nil, List.take, List.drop, Nat.zero_add, Nat.add_zero, Nat.reduceAdd, Nat.reduceMul, Nat.zero_mul, Value.cells, List.toList_toArray, zerosA, List.replicate, List.flatten, List.append_nil]; done) | rfl) (by first | (dsimp only [List.set, List.append, List.cons_append, List.nil_append, splice, AV.cells, List.map, List.map_cons, List.map_nil, List.take, List.drop, Nat.zero_add, Nat.add_zero, Nat.reduceAdd, Nat.reduceMul, Nat.zero_mul, Value.cells, List.toList_toArray, zerosA, List.replicate, List.flatten, List.append_nil]; rfl) | (dsimp only [List.set, List.append, List.cons_append, List.nil_append, splice, AV.cells, List.map, List.map_cons, List.map_nil, List.take, List.drop, Nat.zero_add, Nat.add_zero, Nat.reduceAdd, Nat.reduceMul, Nat.zero_mul, Value.cells, List.toList_toArray, zerosA, List.replicate, List.flatten, List.append_nil]; done) | rfl) ?_) | (refine AO.store (i := 1) rfl rfl rfl rfl rfl rfl (by first | rfl | (simp [AV.cells, AV.one, *]; done) | simp [AV.cells, AV.one, Value.oneCell', *]) (by rfl) (by rfl) (by first | (dsimp only [List.set, List.append, List.cons_append, List.nil_append, splice, AV.cells, List.map, List.map_cons, List.map_nil, List.take, List.drop, Nat.zero_add, Nat.add_zero, Nat.reduceAdd, Nat.reduceMul, Nat.zero_mul, Value.cells, List.toList_toArray, zerosA, List.replicate, List.flatten, List.append_nil]; rfl) | (dsimp only [List.set, List.append, List.cons_append, List.nil_append, splice, AV.cells, List.map, List.map_cons, List.map_nil, List.take, List.drop, Nat.zero_add, Nat.add_zero, Nat.reduceAdd, Nat.reduceMul, Nat.zero_mul, Value.cells, List.toList_toArray, zerosA, List.replicate, List.flatten, List.append_nil]; done) | rfl) (by first | (dsimp only [List.set, List.append, List.cons_append, List.nil_append, splice, AV.cells, List.map, List.map_cons, List.map_nil, List.take, List.drop, Nat.zero_add, Nat.add_zero, Nat.reduceAdd, Nat.reduceMul, Nat.zero_mul, Value.cells, List.toList_toArray, zerosA, List.replicate, List.flatten, List.append_nil]; rfl) | (dsimp only [List.set, List.append, List.cons_append, List.nil_append, splice, AV.cells, List.map, List.map_cons, List.map_nil, List.take, List.drop, Nat.zero_add, Nat.add_zero, Nat.reduceAdd, Nat.reduceMul, Nat.zero_mul, Value.cells, List.toList_toArray, zerosA, List.replicate, List.flatten, List.append_nil]; done) | rfl) ?_) | (refine AO.store (i := 2) rfl rfl rfl rfl rfl rfl (by first | rfl | (simp [AV.cells, AV.one, *]; done) | simp [AV.cells, AV.one, Value.oneCell', *]) (by rfl) (by rfl) (by first | (dsimp only [List.set, List.append, List.cons_append, List.nil_append, splice, AV.cells, List.map, List.map_cons, List.map_nil, List.take, List.drop, Nat.zero_add, Nat.add_zero, Nat.reduceAdd, Nat.reduceMul, Nat.zero_mul, Value.cells, List.toList_toArray, zerosA, List.replicate, List.flatten, List.append_nil]; rfl) | (dsimp only [List.set, List.append, List.cons_append, List.nil_append, splice, AV.cells, List.map, List.map_cons, List.map_nil, List.take, List.drop, Nat.zero_add, Nat.add_zero, Nat.reduceAdd, Nat.reduceMul, Nat.zero_mul, Value.cells, List.toList_toArray, zerosA, List.replicate, List.flatten, List.append_nil]; done) | rfl) (by first | (dsimp only [List.set, List.append, List.cons_append, List.nil_append, splice, AV.cells, List.map, List.map_cons, List.map_nil, List.take, List.drop, Nat.zero_add, Nat.add_zero, Nat.reduceAdd, Nat.reduceMul, Nat.zero_mul, Value.cells, List.toList_toArray, zerosA, List.replicate, List.flatten, List.append_nil]; rfl) | (dsimp only [List.set, List.append, List.cons_append, List.nil_append, splice, AV.cells, List.map, List.map_cons, List.map_nil, List.take, List.drop, Nat.zero_add, Nat.add_zero, Nat.reduceAdd, Nat.reduceMul, Nat.zero_mul, Value.cells, List.toList_toArray, zerosA, List.replicate, List.flatten, List.append_nil]; done) | rfl) ?_) | (refine AO.store (i := 3) rfl rfl rfl rfl rfl rfl (by first | rfl | (simp [AV.cells, AV.one, *]; done) | simp [AV.cells, AV.one, Value.oneCell', *]) (by rfl) (by rfl) (by first | (dsimp only [List.set, List.append, List.cons_append, List.nil_append, splice, AV.cells, List.map, List.map_cons, List.map_nil, List.take, List.drop, Nat.zero_add, Nat.add_zero, Nat.reduceAdd, Nat.reduceMul, Nat.zero_mul, Value.cells, List.toList_toArray, zerosA, List.replicate, List.flatten, List.append_nil]; rfl) | (dsimp only [List.set, List.append, List.cons_append, List.nil_append, splice, AV.cells, List.map, List.map_cons, List.map_nil, List.take, List.drop, Nat.zero_add, Nat.add_zero, Nat.reduceAdd, Nat.reduceMul, Nat.zero_mul, Value.cells, List.toList_toArray, zerosA, List.replicate, List.flatten, List.append_nil]; done) | rfl) (by first | (dsimp only [List.set, List.append, List.cons_append, List.nil_append, splice, AV.cells, List.map, List.map_cons, List.map_nil, List.take, List.drop, Nat.zero_add, Nat.add_zero, Nat.reduceAdd, Nat.reduceMul, Nat.zero_mul, Value.cells, List.toList_toArray, zerosA, List.replicate, List.flatten, List.append_nil]; rfl) | (dsimp only [List.set, List.append, List.cons_append, List.nil_append, splice, AV.cells, List.map, List.map_cons, List.map_nil, List.take, List.drop, Nat.zero_add, Nat.add_zero, Nat.reduceAdd, Nat.reduceMul, Nat.zero_mul, Value.cells, List.toList_toArray, zerosA, List.replicate, List.flatten, List.append_nil]; done) | rfl) ?_) | (refine AO.store (i := 4) rfl rfl rfl rfl rfl rfl (by first | rfl | (simp [AV.cells, AV.one, *]; done) | simp [AV.cells, AV.one, Value.oneCell', *]) (by rfl) (by rfl) (by first | (dsimp only [List.set, List.append, List.cons_append, List.nil_append, splice, AV.cells, List.map, List.map_cons, List.map_nil, List.take, List.drop, Nat.zero_add, Nat.add_zero, Nat.reduceAdd, Nat.reduceMul, Nat.zero_mul, Value.cells, List.toList_toArray, zerosA, List.replicate, List.flatten, List.append_nil]; rfl) | (dsimp only [List.set, List.append, List.cons_append, List.nil_append, splice, AV.cells, List.map, List.map_cons, List.map_nil, List.take, List.drop, Nat.zero_add, Nat.add_zero, Nat.reduceAdd, Nat.reduceMul, Nat.zero_mul, Value.cells, List.toList_toArray, zerosA, List.replicate, List.flatten, List.append_nil]; done) | rfl) (by first | (dsimp only [List.set, List.append, List.cons_append, List.nil_append, splice, AV.cells, List.map, List.map_cons, List.map_nil, List.take, List.drop, Nat.zero_add, Nat.add_zero, Nat.reduceAdd, Nat.reduceMul, Nat.zero_mul, Value.cells, List.toList_toArray, zerosA, List.replicate, List.flatten, List.append_nil]; rfl) | (dsimp only [List.set, List.append, List.cons_append, List.nil_append, splice, AV.cells, List.map, List.map_cons, List.map_nil, List.take, List.drop, Nat.zero_add, Nat.add_zero, Nat.reduceAdd, Nat.reduceMul, Nat.zero_mul, Value.cells, List.toList_toArray, zerosA, List.replicate, List.flatten, List.append_nil]; done) | rfl) ?_) | (refine AO.store (i := 5) rfl rfl rfl rfl rfl rfl (by first | rfl | (simp [AV.cells, AV.one, *]; done) | simp [AV.cells, AV.one, Value.oneCell', *]) (by rfl) (by rfl) (by first | (dsimp only [List.set, List.append, List.cons_append, List.nil_append, splice, AV.cells, List.map, List.map_cons, List.map_nil, List.take, List.drop, Nat.zero_add, Nat.add_zero, Nat.reduceAdd, Nat.reduceMul, Nat.zero_mul, Value.cells, List.toList_toArray, zerosA, List.replicate, List.flatten, List.append_nil]; rfl) | (dsimp only [List.set, List.append, List.cons_append, List.nil_append, splice, AV.cells, List.map, List.map_cons, List.map_nil, List.take, List.drop, Nat.zero_add, Nat.add_zero, Nat.reduceAdd, Nat.reduceMul, Nat.zero_mul, Value.cells, List.toList_toArray, zerosA, List.replicate, List.flatten, List.append_nil]; done) | rfl) (by first | (dsimp only [List.set, List.append, List.cons_append, List.nil_append, splice, AV.cells, List.map, List.map_cons, List.map_nil, List.take, List.drop, Nat.zero_add, Nat.add_zero, Nat.reduceAdd, Nat.reduceMul, Nat.zero_mul, Value.cells, List.toList_toArray, zerosA, List.replicate, List.flatten, List.append_nil]; rfl) | (dsimp only [List.set, List.append, List.cons_append, List.nil_append, splice, AV.cells, List.map, List.map_cons, List.map_nil, List.take, List.drop, Nat.zero_add, Nat.add_zero, Nat.reduceAdd, Nat.reduceMul, Nat.zero_mul, Value.cells, List.toList_toArray, zerosA, List.replicate, List.flatten, List.append_nil]; done) | rfl) ?_)
    refine AO.nil ?_
    refine AQ.thenN ?_
    refine AW.seq ?_
    refine AW.region ?_
    refine AO.op (O.move rfl rfl) rfl rfl rfl ?_
    first | (refine AO.op (O.loadRK rfl rfl (by first | exact getW (by assumption) | (dsimp only [List.take, List.drop]; rfl)) (by rfl)) rfl rfl rfl ?_) | (refine AO.op (O.loadK rfl rfl (by repeat (first | exact List.Mem.head _ | refine List.Mem.tail _ ?_)) (by first | (dsimp only [List.set, List.append, List.cons_append, List.nil_append, splice, AV.cells, List.map, List.map_cons, List.map_nil, List.take, List.drop, Nat.zero_add, Nat.add_zero, Nat.reduceAdd, Nat.reduceMul, Nat.zero_mul, Value.cells, List.toList_toArray, zerosA, List.replicate, List.flatten, List.append_nil]; rfl) | (dsimp only [List.set, List.append, List.cons_append, List.nil_append, splice, AV.cells, List.map, List.map_cons, List.map_nil, List.take, List.drop, Nat.zero_add, Nat.add_zero, Nat.reduceAdd, Nat.reduceMul, Nat.zero_mul, Value.cells, List.toList_toArray, zerosA, List.replicate, List.flatten, List.append_nil]; done) | rfl) (by rfl)) rfl rfl rfl ?_)
    refine AO.op (O.callV rfl rfl hf hn hb rfl (hk _ _ _ _ _)) rfl rfl rfl ?_
    refine AO.nil ?_
    refine AQ.thenN ?_
    refine AW.split rfl (fun hK => ?_) (fun hK => ?_)
    · skip
      have hK : K (wat ws k) = true := hK
      refine AW.region ?_
      refine AO.op (O.move rfl rfl) rfl rfl rfl ?_
      first | (refine AO.op (O.loadRK rfl rfl (by first | exact getW (by assumption) | (dsimp only [List.take, List.drop]; rfl)) (by rfl)) rfl rfl rfl ?_) | (refine AO.op (O.loadK rfl rfl (by repeat (first | exact List.Mem.head _ | refine List.Mem.tail _ ?_)) (by first | (dsimp only [List.set, List.append, List.cons_append, List.nil_append, splice, AV.cells, List.map, List.map_cons, List.map_nil, List.take, List.drop, Nat.zero_add, Nat.add_zero, Nat.reduceAdd, Nat.reduceMul, Nat.zero_mul, Value.cells, List.toList_toArray, zerosA, List.replicate, List.flatten, List.append_nil]; rfl) | (dsimp only [List.set, List.append, List.cons_append, List.nil_append, splice, AV.cells, List.map, List.map_cons, List.map_nil, List.take, List.drop, Nat.zero_add, Nat.add_zero, Nat.reduceAdd, Nat.reduceMul, Nat.zero_mul, Value.cells, List.toList_toArray, zerosA, List.replicate, List.flatten, List.append_nil]; done) | rfl) (by rfl)) rfl rfl rfl ?_)
      refine AO.op (O.call rfl Try.func40 rfl rfl rfl (owned_fn _ _ _ _ _ (hsh.at hlt).1 (hsh.at hlt).2)) rfl rfl rfl ?_
      refine AO.opB (O.buildSlice rfl rfl rfl (by rfl) (by rfl) (by rfl) (by rfl)) rfl rfl rfl ?_
      intro B
      first | (refine AO.append' (i := 0) rfl rfl rfl rfl (by rfl) (by rfl) rfl rfl rfl (by first | exact SrcA.nil TyD.ax | exact SrcA.ro TyD.ax (by first | rfl | simp) (Nat.le_of_ble_eq_true rfl) | exact SrcA.blk TyD.ax (by repeat (first | exact List.Mem.head _ | refine List.Mem.tail _ ?_)) (by first | (dsimp only [List.set, List.append, List.cons_append, List.nil_append, splice, AV.cells, List.map, List.map_cons, List.map_nil, List.take, List.drop, Nat.zero_add, Nat.add_zero, Nat.reduceAdd, Nat.reduceMul, Nat.zero_mul, Value.cells, List.toList_toArray, zerosA, List.replicate, List.flatten, List.append_nil]; rfl) | (dsimp only [List.set, List.append, List.cons_append, List.nil_append, splice, AV.cells, List.map, List.map_cons, List.map_nil, List.take, List.drop, Nat.zero_add, Nat.add_zero, Nat.reduceAdd, Nat.reduceMul, Nat.zero_mul, Value.cells, List.toList_toArray, zerosA, List.replicate, List.flatten, List.append_nil]; done) | rfl) (by first | rfl | simp) | exact SrcA.row TyD.ax (by repeat (first | exact List.Mem.head _ | refine List.Mem.tail _ ?_)) (by first | rfl | simp)) (by first | rfl | (simp [AV.cells, AV.one, *]; done) | simp [AV.cells, AV.one, Value.oneCell', *]) (by unfold maxLen; omega) (by omega) (by first | (dsimp only [List.set, List.append, List.cons_append, List.nil_append, splice, AV.cells, List.map, List.map_cons, List.map_nil, List.take, List.drop, Nat.zero_add, Nat.add_zero, Nat.reduceAdd, Nat.reduceMul, Nat.zero_mul, Value.cells, List.toList_toArray, zerosA, List.replicate, List.flatten, List.append_nil]; rfl) | (dsimp only [List.set, List.append, List.cons_append, List.nil_append, splice, AV.cells, List.map, List.map_cons, List.map_nil, List.take, List.drop, Nat.zero_add, Nat.add_zero, Nat.reduceAdd, Nat.reduceMul, Nat.zero_mul, Value.cells, List.toList_toArray, zerosA, List.replicate, List.flatten, List.append_nil]; done) | rfl) (fun _ => by first | (dsimp only [List.set]; rfl) | (dsimp only [List.set]; done) | rfl) ?_) | (refine AO.append' (i := 1) rfl rfl rfl rfl (by rfl) (by rfl) rfl rfl rfl (by first | exact SrcA.nil TyD.ax | exact SrcA.ro TyD.ax (by first | rfl | simp) (Nat.le_of_ble_eq_true rfl) | exact SrcA.blk TyD.ax (by repeat (first | exact List.Mem.head _ | refine List.Mem.tail _ ?_)) (by first | (dsimp only [List.set, List.append, List.cons_append, List.nil_append, splice, AV.cells, List.map, List.map_cons, List.map_nil, List.take, List.drop, Nat.zero_add, Nat.add_zero, Nat.reduceAdd, Nat.reduceMul, Nat.zero_mul, Value.cells, List.toList_toArray, zerosA, List.replicate, List.flatten, List.append_nil]; rfl) | (dsimp only [List.set, List.append, List.cons_append, List.nil_append, splice, AV.cells, List.map, List.map_cons, List.map_nil, List.take, List.drop, Nat.zero_add, Nat.add_zero, Nat.reduceAdd, Nat.reduceMul, Nat.zero_mul, Value.cells, List.toList_toArray, zerosA, List.replicate, List.flatten, List.append_nil]; done) | rfl) (by first | rfl | simp) | exact SrcA.row TyD.ax (by repeat (first | exact List.Mem.head _ | refine List.Mem.tail _ ?_)) (by first | rfl | simp)) (by first | rfl | (simp [AV.cells, AV.one, *]; done) | simp [AV.cells, AV.one, Value.oneCell', *]) (by unfold maxLen; omega) (by omega) (by first | (dsimp only [List.set, List.append, List.cons_append, List.nil_append, splice, AV.cells, List.map, List.map_cons, List.map_nil, List.take, List.drop, Nat.zero_add, Nat.add_zero, Nat.reduceAdd, Nat.reduceMul, Nat.zero_mul, Value.cells, List.toList_toArray, zerosA, List.replicate, List.flatten, List.append_nil]; rfl) | (dsimp only [List.set, List.append, List.cons_append, List.nil_append, splice, AV.cells, List.map, List.map_cons, List.map_nil, List.take, List.drop, Nat.zero_add, Nat.add_zero, Nat.reduceAdd, Nat.reduceMul, Nat.zero_mul, Value.cells, List.toList_toArray, zerosA, List.replicate, List.flatten, List.append_nil]; done) | rfl) (fun _ => by first | (dsimp only [List.set]; rfl) | (dsimp only [List.set]; done) | rfl) ?_) | (refine AO.append' (i := 2) rfl rfl rfl rfl (by rfl) (by rfl) rfl rfl rfl (by first | exact SrcA.nil TyD.ax | exact SrcA.ro TyD.ax (by first | rfl | simp) (Nat.le_of_ble_eq_true rfl) | exact SrcA.blk TyD.ax (by repeat (first | exact List.Mem.head _ | refine List.Mem.tail _ ?_)) (by first | (dsimp only [List.set, List.append, List.cons_append, List.nil_append, splice, AV.cells, List.map, List.map_cons, List.map_nil, List.take, List.drop, Nat.zero_add, Nat.add_zero, Nat.reduceAdd, Nat.reduceMul, Nat.zero_mul, Value.cells, List.toList_toArray, zerosA, List.replicate, List.flatten, List.append_nil]; rfl) | (dsimp only [List.set, List.append, List.cons_append, List.nil_append, splice, AV.cells, List.map, List.map_cons, List.map_nil, List.take, List.drop, Nat.zero_add, Nat.add_zero, Nat.reduceAdd, Nat.reduceMul, Nat.zero_mul, Value.cells, List.toList_toArray, zerosA, List.replicate, List.flatten, List.append_nil]; done) | rfl) (by first | rfl | simp) | exact SrcA.row TyD.ax (by repeat (first | exact List.Mem.head _ | refine List.Mem.tail _ ?_)) (by first | rfl | simp)) (by first | rfl | (simp [AV.cells, AV.one, *]; done) | simp [AV.cells, AV.one, Value.oneCell', *]) (by unfold maxLen; omega) (by omega) (by first | (dsimp only [List.set, List.append, List.cons_append, List.nil_append, splice, AV.cells, List.map, List.map_cons, List.map_nil, List.take, List.drop, Nat.zero_add, Nat.add_zero, Nat.reduceAdd, Nat.reduceMul, Nat.zero_mul, Value.cells, List.toList_toArray, zerosA, List.replicate, List.flatten, List.append_nil]; rfl) | (dsimp only [List.set, List.append, List.cons_append, List.nil_append, splice, AV.cells, List.map, List.map_cons, List.map_nil, List.take, List.drop, Nat.zero_add, Nat.add_zero, Nat.reduceAdd, Nat.reduceMul, Nat.zero_mul, Value.cells, List.toList_toArray, zerosA, List.replicate, List.flatten, List.append_nil]; done) | rfl) (fun _ => by first | (dsimp only [List.set]; rfl) | (dsimp only [List.set]; done) | rfl) ?_) | (refine AO.append' (i := 3) rfl rfl rfl rfl (by rfl) (by rfl) rfl rfl rfl (by first | exact SrcA.nil TyD.ax | exact SrcA.ro TyD.ax (by first | rfl | simp) (Nat.le_of_ble_eq_true rfl) | exact SrcA.blk TyD.ax (by repeat (first | exact List.Mem.head _ | refine List.Mem.tail _ ?_)) (by first | (dsimp only [List.set, List.append, List.cons_append, List.nil_append, splice, AV.cells, List.map, List.map_cons, List.map_nil, List.take, List.drop, Nat.zero_add, Nat.add_zero, Nat.reduceAdd, Nat.reduceMul, Nat.zero_mul, Value.cells, List.toList_toArray, zerosA, List.replicate, List.flatten, List.append_nil]; rfl) | (dsimp only [List.set, List.append, List.cons_append, List.nil_append, splice, AV.cells, List.map, List.map_cons, List.map_nil, List.take, List.drop, Nat.zero_add, Nat.add_zero, Nat.reduceAdd, Nat.reduceMul, Nat.zero_mul, Value.cells, List.toList_toArray, zerosA, List.replicate, List.flatten, List.append_nil]; done) | rfl) (by first | rfl | simp) | exact SrcA.row TyD.ax (by repeat (first | exact List.Mem.head _ | refine List.Mem.tail _ ?_)) (by first | rfl | simp)) (by first | rfl | (simp [AV.cells, AV.one, *]; done) | simp [AV.cells, AV.one, Value.oneCell', *]) (by unfold maxLen; omega) (by omega) (by first | (dsimp only [List.set, List.append, List.cons_append, List.nil_append, splice, AV.cells, List.map, List.map_cons, List.map_nil, List.take, List.drop, Nat.zero_add, Nat.add_zero, Nat.reduceAdd, Nat.reduceMul, Nat.zero_mul, Value.cells, List.toList_toArray, zerosA, List.replicate, List.flatten, List.append_nil]; rfl) | (dsimp only [List.set, List.append, List.cons_append, List.nil_append, splice, AV.cells, List.map, List.map_cons, List.map_nil, List.take, List.drop, Nat.zero_add, Nat.add_zero, Nat.reduceAdd, Nat.reduceMul, Nat.zero_mul, Value.cells, List.toList_toArray, zerosA, List.replicate, List.flatten, List.append_nil]; done) | rfl) (fun _ => by first | (dsimp only [List.set]; rfl) | (dsimp only [List.set]; done) | rfl) ?_) | (refine AO.append' (i := 4) rfl rfl rfl rfl (by rfl) (by rfl) rfl rfl rfl (by first | exact SrcA.nil TyD.ax | exact SrcA.ro TyD.ax (by first | rfl | simp) (Nat.le_of_ble_eq_true rfl) | exact SrcA.blk TyD.ax (by repeat (first | exact List.Mem.head _ | refine List.Mem.tail _ ?_)) (by first | (dsimp only [List.set, List.append, List.cons_append, List.nil_append, splice, AV.cells, List.map, List.map_cons, List.map_nil, List.take, List.drop, Nat.zero_add, Nat.add_zero, Nat.reduceAdd, Nat.reduceMul, Nat.zero_mul, Value.cells, List.toList_toArray, zerosA, List.replicate, List.flatten, List.append_nil]; rfl) | (dsimp only [List.set, List.append, List.cons_append, List.nil_append, splice, AV.cells, List.map, List.map_cons, List.map_nil, List.take, List.drop, Nat.zero_add, Nat.add_zero, Nat.reduceAdd, Nat.reduceMul, Nat.zero_mul, Value.cells, List.toList_toArray, zerosA, List.replicate, List.flatten, List.append_nil]; done) | rfl) (by first | rfl | simp) | exact SrcA.row TyD.ax (by repeat (first | exact List.Mem.head _ | refine List.Mem.tail _ ?_)) (by first | rfl | simp)) (by first | rfl | (simp [AV.cells, AV.one, *]; done) | simp [AV.cells, AV.one, Value.oneCell', *]) (by unfold maxLen; omega) (by omega) (by first | (dsimp only [List.set, List.append, List.cons_append, List.nil_append, splice, AV.cells, List.map, List.map_cons, List.map_nil, List.take, List.drop, Nat.zero_add, Nat.add_zero, Nat.reduceAdd, Nat.reduceMul, Nat.zero_mul, Value.cells, List.toList_toArray, zerosA, List.replicate, List.flatten, List.append_nil]; rfl) | (dsimp only [List.set, List.append, List.cons_append, List.nil_append, splice, AV.cells, List.map, List.map_cons, List.map_nil, List.take, List.drop, Nat.zero_add, Nat.add_zero, Nat.reduceAdd, Nat.reduceMul, Nat.zero_mul, Value.cells, List.toList_toArray, zerosA, List.replicate, List.flatten, List.append_nil]; done) | rfl) (fun _ => by first | (dsimp only [List.set]; rfl) | (dsimp only [List.set]; done) | rfl) ?_) | (refine AO.append' (i := 5) rfl rfl rfl rfl (by rfl) (by rfl) rfl rfl rfl (by first | exact SrcA.nil TyD.ax | exact SrcA.ro TyD.ax (by first | rfl | simp) (Nat.le_of_ble_eq_true rfl) | exact SrcA.blk TyD.ax (by repeat (first | exact List.Mem.head _ | refine List.Mem.tail _ ?_)) (by first | (dsimp only [List.set, List.append, List.cons_append, List.nil_append, splice, AV.cells, List.map, List.map_cons, List.map_nil, List.take, List.drop, Nat.zero_add, Nat.add_zero, Nat.reduceAdd, Nat.reduceMul, Nat.zero_mul, Value.cells, List.toList_toArray, zerosA, List.replicate, List.flatten, List.append_nil]; rfl) | (dsimp only [List.set, List.append, List.cons_append, List.nil_append, splice, AV.cells, List.map, List.map_cons, List.map_nil, List.take, List.drop, Nat.zero_add, Nat.add_zero, Nat.reduceAdd, Nat.reduceMul, Nat.zero_mul, Value.cells, List.toList_toArray, zerosA, List.replicate, List.flatten, List.append_nil]; done) | rfl) (by first | rfl | simp) | exact SrcA.row TyD.ax (by repeat (first | exact List.Mem.head _ | refine List.Mem.tail _ ?_)) (by first | rfl | simp)) (by first | rfl | (simp [AV.cells, AV.one, *]; done) | simp [AV.cells, AV.one, Value.oneCell', *]) (by unfold maxLen; omega) (by omega) (by first | (dsimp only [List.set, List.append, List.cons_append, List.nil_append, splice, AV.cells, List.map, List.map_cons, List.map_nil, List.take, List.drop, Nat.zero_add, Nat.add_zero, Nat.reduceAdd, Nat.reduceMul, Nat.zero_mul, Value.cells, List.toList_toArray, zerosA, List.replicate, List.flatten, List.append_nil]; rfl) | (dsimp only [List.set, List.append, List.cons_append, List.nil_append, splice, AV.cells, List.map, List.map_cons, List.map_nil, List.take, List.drop, Nat.zero_add, Nat.add_zero, Nat.reduceAdd, Nat.reduceMul, Nat.zero_mul, Value.cells, List.toList_toArray, zerosA, List.replicate, List.flatten, List.append_nil]; done) | rfl) (fun _ => by first | (dsimp only [List.set]; rfl) | (dsimp only [List.set]; done) | rfl) ?_)
      intro V hV
      refine AO.op (O.assign rfl rfl) rfl rfl rfl ?_
      refine AO.nil ?_
      refine AQ.blockN ?_
      refine AQ.thenN ?_
      refine AW.region ?_
      refine AO.op (O.add rfl rfl rfl (by first | exact wI64 (by omega) | rfl)) rfl rfl rfl ?_
      refine AO.op (O.move rfl rfl) rfl rfl rfl ?_
      refine AO.nil ?_
      refine AQ.loopN _ _ _ (by omega) (⟨k + 1, V, by omega, hV, rfl, rfl, by rw [keptTo_succ hlt, if_pos hK, watchesA_app, List.length_append]⟩) (by repeat (first | exact envNil | refine envCons rfl ?_)) ⟨_, by repeat (first | exact List.Sublist.slnil | refine List.Sublist.cons_cons _ ?_ | refine List.Sublist.cons _ ?_), List.Perm.refl _⟩
    · skip
      have hK : K (wat ws k) = false := hK
      refine AW.skip ?_
      refine AQ.blockN ?_
      refine AQ.thenN ?_
      refine AW.region ?_
      refine AO.op (O.add rfl rfl rfl (by first | exact wI64 (by omega) | rfl)) rfl rfl rfl ?_
      refine AO.op (O.move rfl rfl) rfl rfl rfl ?_
      refine AO.nil ?_
      refine AQ.loopN _ _ _ (by omega) (⟨k + 1, V0, by omega, hV0, rfl, rfl, by rw [keptTo_succ hlt, if_neg (by simp [hK]), List.append_nil]⟩) (by repeat (first | exact envNil | refine envCons rfl ?_)) ⟨_, by repeat (first | exact List.Sublist.slnil | refine List.Sublist.cons_cons _ ?_ | refine List.Sublist.cons _ ?_), List.Perm.refl _⟩
  · skip
    have hlt : k = ws.length := by simp at hlt; omega
    subst hlt
    rw [keptTo_all]
    refine AW.exit ?_
    refine AQ.thenX ?_
    refine AQ.loopX ?_
    refine AQ.blockX rfl ?_
    refine AQ.thenN ?_
    refine AW.seq ?_
    refine AW.region ?_
    refine AO.op (O.move rfl rfl) rfl rfl rfl ?_
    refine AO.op (O.assign rfl rfl) rfl rfl rfl ?_
    refine AO.nil ?_
    refine AQ.thenN ?_
    refine AW.ret ?_
    refine AQ.ret1 rfl rfl ⟨_, by repeat (first | exact List.Sublist.slnil | refine List.Sublist.cons_cons _ ?_ | refine List.Sublist.cons _ ?_), List.Perm.refl _⟩ (⟨V0, rfl, hV0, rfl⟩)
end Go.Proofs.Ytlcoanbdaephiaa.Ob
