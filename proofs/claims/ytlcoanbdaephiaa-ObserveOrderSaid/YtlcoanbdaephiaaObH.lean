/-
  Layer 19: the law ObserveNewer, walked.
-/
import Derived.Test.YtlcoanbdaephiaaObG
namespace Go.Proofs.Ytlcoanbdaephiaa.Ob
open Go.RowKit L A
set_option linter.unusedVariables false
set_option linter.unusedSimpArgs false
attribute [local irreducible] AW AQ AO

def quads (l : List (List Int)) : List AV := l.flatMap (intsA .i64)
theorem quads_at (q0 q1 q2 : List Int) (h0 : q0.length = 4) (h1 : q1.length = 4) (k : Nat) (hk : k < 3) : ((quads [q0, q1, q2]).drop (Int.toNat (k : Int) * 4)).take 4 = intsA .i64 ([q0, q1, q2].getD k []) ∨ q2.length ≠ 4 := by
  by_cases h2 : q2.length = 4
  · left
    match q0, h0, q1, h1, q2, h2 with
    | [_, _, _, _], _, [_, _, _, _], _, [_, _, _, _], _ =>
      rcases (show k = 0 ∨ k = 1 ∨ k = 2 by omega) with rfl | rfl | rfl <;> rfl
  · exact .inr h2

def inI (z : Int) : Prop := -9223372036854775808 ≤ z ∧ z ≤ 9223372036854775807
set_option maxHeartbeats 4000000 in
theorem lawNewer_fn (a b s t : Int) (h1 : inI a) (h2 : inI b) (h3 : inI s) (h4 : inI t) : Sp Try.prog 4 [.val (.int .i64 a), .val (.int .i64 b), .val (.int .i64 s), .val (.int .i64 t)] [] (Is (.val (.bool true))) := by
  unfold inI at *
  have e1 := Int.emod_nonneg a (show (16777216 : Int) ≠ 0 by omega)
  have e2 := Int.emod_lt_of_pos a (show (0 : Int) < 16777216 by omega)
  have e3 := Int.emod_nonneg b (show (16777216 : Int) ≠ 0 by omega)
  have e4 := Int.emod_lt_of_pos b (show (0 : Int) < 16777216 by omega)
  have e5 := Int.emod_nonneg s (show (1099511627776 : Int) ≠ 0 by omega)
  have e6 := Int.emod_lt_of_pos s (show (0 : Int) < 1099511627776 by omega)
  have e7 := Int.emod_nonneg t (show (1099511627776 : Int) ≠ 0 by omega)
  have e8 := Int.emod_lt_of_pos t (show (0 : Int) < 1099511627776 by omega)
  refine Sp.enter Try.func4 rfl _ Try.ntmps4 rfl (fun w0 R0 => ?_)
  refine AW.seq ?_
  refine AW.region ?_
  refine AO.op (O.assign rfl rfl) rfl rfl rfl ?_
  refine AO.nil ?_
  refine AQ.thenN ?_
  refine AW.seq ?_
  refine AW.region ?_
  refine AO.op (O.move rfl rfl) rfl rfl rfl ?_
  first | (refine AO.op (O.call rfl Try.func17 rfl rfl rfl (mod_fn _ _ (by omega) (by omega))) rfl rfl rfl ?_) | (refine AO.op (O.callC rfl Try.func17 rfl rfl rfl (mod_fn _ _ (by omega) (by omega)) (by repeat (first | exact CoeL.nil | refine CoeL.cons Coe.rfl ?_ | refine CoeL.cons Coe.nil ?_ | refine CoeL.cons Coe.unfull ?_))) rfl rfl rfl ?_)
  refine AO.op (O.move rfl rfl) rfl rfl rfl ?_
  first | (refine AO.op (O.call rfl Try.func17 rfl rfl rfl (mod_fn _ _ (by omega) (by omega))) rfl rfl rfl ?_) | (refine AO.op (O.callC rfl Try.func17 rfl rfl rfl (mod_fn _ _ (by omega) (by omega)) (by repeat (first | exact CoeL.nil | refine CoeL.cons Coe.rfl ?_ | refine CoeL.cons Coe.nil ?_ | refine CoeL.cons Coe.unfull ?_))) rfl rfl rfl ?_)
  refine AO.op (O.assign rfl rfl) rfl rfl rfl ?_
  refine AO.op (O.assign rfl rfl) rfl rfl rfl ?_
  refine AO.nil ?_
  refine AQ.thenN ?_
  refine AW.seq ?_
  refine AW.region ?_
  refine AO.op (O.move rfl rfl) rfl rfl rfl ?_
  first | (refine AO.op (O.call rfl Try.func17 rfl rfl rfl (mod_fn _ _ (by omega) (by omega))) rfl rfl rfl ?_) | (refine AO.op (O.callC rfl Try.func17 rfl rfl rfl (mod_fn _ _ (by omega) (by omega)) (by repeat (first | exact CoeL.nil | refine CoeL.cons Coe.rfl ?_ | refine CoeL.cons Coe.nil ?_ | refine CoeL.cons Coe.unfull ?_))) rfl rfl rfl ?_)
  refine AO.op (O.move rfl rfl) rfl rfl rfl ?_
  first | (refine AO.op (O.call rfl Try.func17 rfl rfl rfl (mod_fn _ _ (by omega) (by omega))) rfl rfl rfl ?_) | (refine AO.op (O.callC rfl Try.func17 rfl rfl rfl (mod_fn _ _ (by omega) (by omega)) (by repeat (first | exact CoeL.nil | refine CoeL.cons Coe.rfl ?_ | refine CoeL.cons Coe.nil ?_ | refine CoeL.cons Coe.unfull ?_))) rfl rfl rfl ?_)
  refine AO.op (O.assign rfl rfl) rfl rfl rfl ?_
  refine AO.op (O.assign rfl rfl) rfl rfl rfl ?_
  refine AO.nil ?_
  refine AQ.thenN ?_
  refine AW.seq ?_
  refine AW.seq ?_
  refine AW.region ?_
  refine AO.op (O.move rfl rfl) rfl rfl rfl ?_
  refine AO.op (O.move rfl rfl) rfl rfl rfl ?_
  refine AO.op (O.move rfl rfl) rfl rfl rfl ?_
  refine AO.op (O.move rfl rfl) rfl rfl rfl ?_
  refine AO.op (O.build rfl rfl rfl (by rfl)) rfl rfl rfl ?_
  refine AO.op (O.move rfl rfl) rfl rfl rfl ?_
  refine AO.op (O.move rfl rfl) rfl rfl rfl ?_
  refine AO.op (O.move rfl rfl) rfl rfl rfl ?_
  refine AO.op (O.add rfl rfl rfl (by first | exact wI64 (by omega) | rfl)) rfl rfl rfl ?_
  refine AO.op (O.sub rfl rfl rfl (by first | exact wI64 (by omega) | rfl)) rfl rfl rfl ?_
  refine AO.op (O.move rfl rfl) rfl rfl rfl ?_
  first | (refine AO.op (O.call rfl Try.func17 rfl rfl rfl (mod_fn _ _ (by omega) (by omega))) rfl rfl rfl ?_) | (refine AO.op (O.callC rfl Try.func17 rfl rfl rfl (mod_fn _ _ (by omega) (by omega)) (by repeat (first | exact CoeL.nil | refine CoeL.cons Coe.rfl ?_ | refine CoeL.cons Coe.nil ?_ | refine CoeL.cons Coe.unfull ?_))) rfl rfl rfl ?_)
  refine AO.op (O.add rfl rfl rfl (by first | exact wI64 (by omega) | rfl)) rfl rfl rfl ?_
  refine AO.op (O.rem rfl rfl rfl (by omega) rfl) rfl rfl rfl ?_
  refine AO.op (O.move rfl rfl) rfl rfl rfl ?_
  refine AO.op (O.add rfl rfl rfl (by first | exact wI64 (by omega) | rfl)) rfl rfl rfl ?_
  refine AO.op (O.move rfl rfl) rfl rfl rfl ?_
  first | (refine AO.op (O.call rfl Try.func17 rfl rfl rfl (mod_fn _ _ (by omega) (by omega))) rfl rfl rfl ?_) | (refine AO.op (O.callC rfl Try.func17 rfl rfl rfl (mod_fn _ _ (by omega) (by omega)) (by repeat (first | exact CoeL.nil | refine CoeL.cons Coe.rfl ?_ | refine CoeL.cons Coe.nil ?_ | refine CoeL.cons Coe.unfull ?_))) rfl rfl rfl ?_)
  refine AO.op (O.add rfl rfl rfl (by first | exact wI64 (by omega) | rfl)) rfl rfl rfl ?_
  refine AO.op (O.build rfl rfl rfl (by rfl)) rfl rfl rfl ?_
  refine AO.op (O.move rfl rfl) rfl rfl rfl ?_
  refine AO.op (O.move rfl rfl) rfl rfl rfl ?_
  refine AO.op (O.move rfl rfl) rfl rfl rfl ?_
  first | (refine AO.op (O.call rfl Try.func17 rfl rfl rfl (mod_fn _ _ (by omega) (by omega))) rfl rfl rfl ?_) | (refine AO.op (O.callC rfl Try.func17 rfl rfl rfl (mod_fn _ _ (by omega) (by omega)) (by repeat (first | exact CoeL.nil | refine CoeL.cons Coe.rfl ?_ | refine CoeL.cons Coe.nil ?_ | refine CoeL.cons Coe.unfull ?_))) rfl rfl rfl ?_)
  refine AO.op (O.add rfl rfl rfl (by first | exact wI64 (by omega) | rfl)) rfl rfl rfl ?_
  refine AO.op (O.rem rfl rfl rfl (by omega) rfl) rfl rfl rfl ?_
  refine AO.op (O.move rfl rfl) rfl rfl rfl ?_
  first | (refine AO.op (O.call rfl Try.func17 rfl rfl rfl (mod_fn _ _ (by omega) (by omega))) rfl rfl rfl ?_) | (refine AO.op (O.callC rfl Try.func17 rfl rfl rfl (mod_fn _ _ (by omega) (by omega)) (by repeat (first | exact CoeL.nil | refine CoeL.cons Coe.rfl ?_ | refine CoeL.cons Coe.nil ?_ | refine CoeL.cons Coe.unfull ?_))) rfl rfl rfl ?_)
  refine AO.op (O.build rfl rfl rfl (by rfl)) rfl rfl rfl ?_
  refine AO.opB (O.buildSlice rfl rfl rfl (by rfl) (by rfl) (by rfl) (by rfl)) rfl rfl rfl ?_
  intro B
  refine AO.g ?_
  first | (refine G.freezeSl 0 50 rfl rfl ⟨Nat.le_refl _, by unfold maxLen; omega⟩ ?_) | (refine G.freezeSl 1 50 rfl rfl ⟨Nat.le_refl _, by unfold maxLen; omega⟩ ?_) | (refine G.freezeSl 2 50 rfl rfl ⟨Nat.le_refl _, by unfold maxLen; omega⟩ ?_) | (refine G.freezeSl 3 50 rfl rfl ⟨Nat.le_refl _, by unfold maxLen; omega⟩ ?_) | (refine G.freezeSl 4 50 rfl rfl ⟨Nat.le_refl _, by unfold maxLen; omega⟩ ?_) | (refine G.freezeSl 5 50 rfl rfl ⟨Nat.le_refl _, by unfold maxLen; omega⟩ ?_)
  refine G.unfull 50 rfl ?_
  refine AO.u ?_
  dsimp only [List.eraseIdx]
  first | (refine AO.op (O.lenR rfl rfl) rfl rfl rfl ?_) | (refine AO.op (O.lenV rfl rfl) rfl rfl rfl ?_) | (refine AO.op (O.lenRow rfl rfl (by repeat (first | exact List.Mem.head _ | refine List.Mem.tail _ ?_))) rfl rfl rfl ?_) | (refine AO.op (O.lenS rfl rfl) rfl rfl rfl ?_)
  refine AO.op (O.move rfl rfl) rfl rfl rfl ?_
  refine AO.nil ?_
  refine AQ.thenN ?_
  refine AW.block ?_
  have q1 := Int.emod_nonneg b (show (3 : Int) ≠ 0 by omega)
  have q2 := Int.emod_lt_of_pos b (show (0 : Int) < 3 by omega)
  have q3 := Int.emod_nonneg (t % 1099511627776) (show (3 : Int) ≠ 0 by omega)
  have q4 := Int.emod_lt_of_pos (t % 1099511627776) (show (0 : Int) < 3 by omega)
  have q5 := Int.emod_nonneg b (show (9 : Int) ≠ 0 by omega)
  have q6 := Int.emod_lt_of_pos b (show (0 : Int) < 9 by omega)
  have q7 := Int.emod_nonneg (t % 1099511627776) (show (140 : Int) ≠ 0 by omega)
  have q8 := Int.emod_lt_of_pos (t % 1099511627776) (show (0 : Int) < 140 by omega)
  have r1 := Int.tmod_nonneg 16777216 (show 0 ≤ a % 16777216 + 8388608 - 1 + b % 3 by omega)
  have r2 := Int.tmod_lt_of_pos (a % 16777216 + 8388608 - 1 + b % 3) (show (0 : Int) < 16777216 by omega)
  have r3 := Int.tmod_nonneg 16777216 (show 0 ≤ a % 16777216 + b % 9 by omega)
  have r4 := Int.tmod_lt_of_pos (a % 16777216 + b % 9) (show (0 : Int) < 16777216 by omega)
  refine AW.g ?_
  refine G.re 50 (.ro false 3 (quads [[a % 16777216, s % 1099511627776, b % 16777216, t % 1099511627776], [a % 16777216, s % 1099511627776, (a % 16777216 + 8388608 - 1 + b % 3).tmod 16777216, s % 1099511627776 + 127 + t % 1099511627776 % 3], [a % 16777216, 5, (a % 16777216 + b % 9).tmod 16777216, t % 1099511627776 % 140]])) rfl ?_
  refine AW.u ?_
  refine AW.loop (fun n E H => ∃ k : Nat, k ≤ 3 ∧ n = 3 - k ∧ E = [(50, .ro false 3 (quads [[a % 16777216, s % 1099511627776, b % 16777216, t % 1099511627776], [a % 16777216, s % 1099511627776, (a % 16777216 + 8388608 - 1 + b % 3).tmod 16777216, s % 1099511627776 + 127 + t % 1099511627776 % 3], [a % 16777216, 5, (a % 16777216 + b % 9).tmod 16777216, t % 1099511627776 % 140]])), (51, .val (.int .i64 3)), (52, .val (.int .i64 (k : Int)))] ∧ H = []) (3) (⟨0, by omega, rfl, rfl, rfl⟩) (by repeat (first | exact envNil | refine envCons rfl ?_)) ⟨_, by repeat (first | exact List.Sublist.slnil | refine List.Sublist.cons_cons _ ?_ | refine List.Sublist.cons _ ?_), List.Perm.refl _⟩ ?_
  rintro n E H ⟨k, hk, rfl, rfl, rfl⟩
  refine AW.seq ?_
  refine AW.region ?_
  refine AO.op (O.lss rfl rfl rfl (by first | exact bTrue (by omega) | exact bFalse (by omega) | assumption | rfl)) rfl rfl rfl ?_
  refine AO.nil ?_
  refine AQ.thenN ?_
  refine AW.seq ?_
  refine AW.split rfl (fun hlt => ?_) (fun hlt => ?_)
  · skip
    have hlt : k < 3 := by have := of_decide_eq_true hlt; omega
    obtain ⟨x0, x1, x2, x3, hget, hb⟩ : ∃ x0 x1 x2 x3 : Int, ((quads [[a % 16777216, s % 1099511627776, b % 16777216, t % 1099511627776], [a % 16777216, s % 1099511627776, (a % 16777216 + 8388608 - 1 + b % 3).tmod 16777216, s % 1099511627776 + 127 + t % 1099511627776 % 3], [a % 16777216, 5, (a % 16777216 + b % 9).tmod 16777216, t % 1099511627776 % 140]]).drop (Int.toNat (k : Int) * 4)).take 4 = [.val (.int .i64 x0), .val (.int .i64 x1), .val (.int .i64 x2), .val (.int .i64 x3)] ∧
        (0 ≤ x0 ∧ x0 < 16777216 ∧ 0 ≤ x2 ∧ x2 < 16777216 ∧ -4611686018427387904 ≤ x1 ∧ x1 ≤ 4611686018427387903 ∧ -4611686018427387904 ≤ x3 ∧ x3 ≤ 4611686018427387903) := by
      rcases (show k = 0 ∨ k = 1 ∨ k = 2 by omega) with rfl | rfl | rfl
      · exact ⟨_, _, _, _, rfl, by omega⟩
      · exact ⟨_, _, _, _, rfl, by omega⟩
      · exact ⟨_, _, _, _, rfl, by omega⟩
    clear q1 q2 q3 q4 q5 q6 q7 q8 r1 r2 r3 r4 e1 e2 e3 e4 e5 e6 e7 e8
    refine AW.skip ?_
    refine AQ.thenN ?_
    refine AW.seq ?_
    refine AW.block ?_
    refine AW.seq ?_
    refine AW.region ?_
    first | (refine AO.op (O.idxR rfl rfl rfl ⟨by omega, by omega⟩) rfl rfl rfl ?_) | (refine AO.op (O.idxV rfl rfl rfl ⟨by omega, by omega⟩) rfl rfl rfl ?_)
    first | (refine AO.op (O.loadRK rfl rfl (by first | exact hget | (dsimp only [List.take, List.drop]; rfl)) (by rfl)) rfl rfl rfl ?_) | (refine AO.op (O.loadK rfl rfl (by repeat (first | exact List.Mem.head _ | refine List.Mem.tail _ ?_)) (by first | (dsimp only [List.set, List.append, List.cons_append, List.nil_append, splice, AV.cells, List.map, List.map_cons, List.map_nil, List.take, List.drop, Nat.zero_add, Nat.add_zero, Nat.reduceAdd, Nat.reduceMul, Nat.zero_mul, Value.cells, List.toList_toArray, zerosA, List.replicate, List.flatten, List.append_nil]; rfl) | (dsimp only [List.set, List.append, List.cons_append, List.nil_append, splice, AV.cells, List.map, List.map_cons, List.map_nil, List.take, List.drop, Nat.zero_add, Nat.add_zero, Nat.reduceAdd, Nat.reduceMul, Nat.zero_mul, Value.cells, List.toList_toArray, zerosA, List.replicate, List.flatten, List.append_nil]; done) | rfl) (by rfl)) rfl rfl rfl ?_)
    refine AO.opB (O.alloc rfl (by first | (dsimp only [List.set, List.append, List.cons_append, List.nil_append, splice, AV.cells, List.map, List.map_cons, List.map_nil, List.take, List.drop, Nat.zero_add, Nat.add_zero, Nat.reduceAdd, Nat.reduceMul, Nat.zero_mul, Value.cells, List.toList_toArray, zerosA, List.replicate, List.flatten, List.append_nil]; rfl) | (dsimp only [List.set, List.append, List.cons_append, List.nil_append, splice, AV.cells, List.map, List.map_cons, List.map_nil, List.take, List.drop, Nat.zero_add, Nat.add_zero, Nat.reduceAdd, Nat.reduceMul, Nat.zero_mul, Value.cells, List.toList_toArray, zerosA, List.replicate, List.flatten, List.append_nil]; done) | rfl) (by rfl)) rfl rfl rfl ?_
    intro B
    first | (refine AO.store (i := 0) rfl rfl rfl rfl rfl rfl (by first | rfl | (simp [AV.cells, AV.one, *]; done) | simp [AV.cells, AV.one, Value.oneCell', *]) (by rfl) (by rfl) (by first | (dsimp only [List.set, List.append, List.cons_append, List.nil_append, splice, AV.cells, List.map, List.map_cons, List.map_nil, List.take, List.drop, Nat.zero_add, Nat.add_zero, Nat.reduceAdd, Nat.reduceMul, Nat.zero_mul, Value.cells, List.toList_toArray, zerosA, List.replicate, List.flatten, List.append_nil]; rfl) | (dsimp only [List.set, List.append, List.cons_append, List.nil_append, splice, AV.cells, List.map, List.map_cons, List.map_nil, List.take, List.drop, Nat.zero_add, Nat.add_zero, Nat.reduceAdd, Nat.reduceMul, Nat.zero_mul, Value.cells, List.toList_toArray, zerosA, List.replicate, List.flatten, List.append_nil]; done) | rfl) (by first | (dsimp only [List.set, List.append, List.cons_append, List.nil_append, splice, AV.cells, List.map, List.map_cons, List.map_nil, List.take, List.drop, Nat.zero_add, Nat.add_zero, Nat.reduceAdd, Nat.reduceMul, Nat.zero_mul, Value.cells, List.toList_toArray, zerosA, List.replicate, List.flatten, List.append_nil]; rfl) | (dsimp only [List.set, List.append, List.cons_append, List.nil_append, splice, AV.cells, List.map, List.map_cons, List.map_nil, List.take, List.drop, Nat.zero_add, Nat.add_zero, Nat.reduceAdd, Nat.reduceMul, Nat.zero_mul, Value.cells, List.toList_toArray, zerosA, List.replicate, List.flatten, List.append_nil]; done) | rfl) ?_) | (refine AO.store (i := 1) rfl rfl rfl rfl rfl rfl (by first | rfl | (simp [AV.cells, AV.one, *]; done) | simp [AV.cells, AV.one, Value.oneCell', *]) (by rfl) (by rfl) (by first | (dsimp only [List.set, List.append, List.cons_append, List.nil_append, splice, AV.cells, List.map, List.map_cons, List.map_nil, List.take, List.drop, Nat.zero_add, Nat.add_zero, Nat.reduceAdd, Nat.reduceMul, Nat.zero_mul, Value.cells, List.toList_toArray, zerosA, List.replicate, List.flatten, List.append_nil]; rfl) | (dsimp only [List.set, List.append, List.cons_append, List.nil_append, splice, AV.cells, List.map, List.map_cons, List.map_nil, List.take, List.drop, Nat.zero_add, Nat.add_zero, Nat.reduceAdd, Nat.reduceMul, Nat.zero_mul, Value.cells, List.toList_toArray, zerosA, List.replicate, List.flatten, List.append_nil]; done) | rfl) (by first | (dsimp only [List.set, List.append, List.cons_append, List.nil_append, splice, AV.cells, List.map, List.map_cons, List.map_nil, List.take, List.drop, Nat.zero_add, Nat.add_zero, Nat.reduceAdd, Nat.reduceMul, Nat.zero_mul, Value.cells, List.toList_toArray, zerosA, List.replicate, List.flatten, List.append_nil]; rfl) | (dsimp only [List.set, List.append, List.cons_append, List.nil_append, splice, AV.cells, List.map, List.map_cons, List.map_nil, List.take, List.drop, Nat.zero_add, Nat.add_zero, Nat.reduceAdd, Nat.reduceMul, Nat.zero_mul, Value.cells, List.toList_toArray, zerosA, List.replicate, List.flatten, List.append_nil]; done) | rfl) ?_) | (refine AO.store (i := 2) rfl rfl rfl rfl rfl rfl (by first | rfl | (simp [AV.cells, AV.one, *]; done) | simp [AV.cells, AV.one, Value.oneCell', *]) (by rfl) (by rfl) (by first | (dsimp only [List.set, List.append, List.cons_append, List.nil_append, splice, AV.cells, List.map, List.map_cons, List.map_nil, List.take, List.drop, Nat.zero_add, Nat.add_zero, Nat.reduceAdd, Nat.reduceMul, Nat.zero_mul, Value.cells, List.toList_toArray, zerosA, List.replicate, List.flatten, List.append_nil]; rfl) | (dsimp only [List.set, List.append, List.cons_append, List.nil_append, splice, AV.cells, List.map, List.map_cons, List.map_nil, List.take, List.drop, Nat.zero_add, Nat.add_zero, Nat.reduceAdd, Nat.reduceMul, Nat.zero_mul, Value.cells, List.toList_toArray, zerosA, List.replicate, List.flatten, List.append_nil]; done) | rfl) (by first | (dsimp only [List.set, List.append, List.cons_append, List.nil_append, splice, AV.cells, List.map, List.map_cons, List.map_nil, List.take, List.drop, Nat.zero_add, Nat.add_zero, Nat.reduceAdd, Nat.reduceMul, Nat.zero_mul, Value.cells, List.toList_toArray, zerosA, List.replicate, List.flatten, List.append_nil]; rfl) | (dsimp only [List.set, List.append, List.cons_append, List.nil_append, splice, AV.cells, List.map, List.map_cons, List.map_nil, List.take, List.drop, Nat.zero_add, Nat.add_zero, Nat.reduceAdd, Nat.reduceMul, Nat.zero_mul, Value.cells, List.toList_toArray, zerosA, List.replicate, List.flatten, List.append_nil]; done) | rfl) ?_) | (refine AO.store (i := 3) rfl rfl rfl rfl rfl rfl (by first | rfl | (simp [AV.cells, AV.one, *]; done) | simp [AV.cells, AV.one, Value.oneCell', *]) (by rfl) (by rfl) (by first | (dsimp only [List.set, List.append, List.cons_append, List.nil_append, splice, AV.cells, List.map, List.map_cons, List.map_nil, List.take, List.drop, Nat.zero_add, Nat.add_zero, Nat.reduceAdd, Nat.reduceMul, Nat.zero_mul, Value.cells, List.toList_toArray, zerosA, List.replicate, List.flatten, List.append_nil]; rfl) | (dsimp only [List.set, List.append, List.cons_append, List.nil_append, splice, AV.cells, List.map, List.map_cons, List.map_nil, List.take, List.drop, Nat.zero_add, Nat.add_zero, Nat.reduceAdd, Nat.reduceMul, Nat.zero_mul, Value.cells, List.toList_toArray, zerosA, List.replicate, List.flatten, List.append_nil]; done) | rfl) (by first | (dsimp only [List.set, List.append, List.cons_append, List.nil_append, splice, AV.cells, List.map, List.map_cons, List.map_nil, List.take, List.drop, Nat.zero_add, Nat.add_zero, Nat.reduceAdd, Nat.reduceMul, Nat.zero_mul, Value.cells, List.toList_toArray, zerosA, List.replicate, List.flatten, List.append_nil]; rfl) | (dsimp only [List.set, List.append, List.cons_append, List.nil_append, splice, AV.cells, List.map, List.map_cons, List.map_nil, List.take, List.drop, Nat.zero_add, Nat.add_zero, Nat.reduceAdd, Nat.reduceMul, Nat.zero_mul, Value.cells, List.toList_toArray, zerosA, List.replicate, List.flatten, List.append_nil]; done) | rfl) ?_) | (refine AO.store (i := 4) rfl rfl rfl rfl rfl rfl (by first | rfl | (simp [AV.cells, AV.one, *]; done) | simp [AV.cells, AV.one, Value.oneCell', *]) (by rfl) (by rfl) (by first | (dsimp only [List.set, List.append, List.cons_append, List.nil_append, splice, AV.cells, List.map, List.map_cons, List.map_nil, List.take, List.drop, Nat.zero_add, Nat.add_zero, Nat.reduceAdd, Nat.reduceMul, Nat.zero_mul, Value.cells, List.toList_toArray, zerosA, List.replicate, List.flatten, List.append_nil]; rfl) | (dsimp only [List.set, List.append, List.cons_append, List.nil_append, splice, AV.cells, List.map, List.map_cons, List.map_nil, List.take, List.drop, Nat.zero_add, Nat.add_zero, Nat.reduceAdd, Nat.reduceMul, Nat.zero_mul, Value.cells, List.toList_toArray, zerosA, List.replicate, List.flatten, List.append_nil]; done) | rfl) (by first | (dsimp only [List.set, List.append, List.cons_append, List.nil_append, splice, AV.cells, List.map, List.map_cons, List.map_nil, List.take, List.drop, Nat.zero_add, Nat.add_zero, Nat.reduceAdd, Nat.reduceMul, Nat.zero_mul, Value.cells, List.toList_toArray, zerosA, List.replicate, List.flatten, List.append_nil]; rfl) | (dsimp only [List.set, List.append, List.cons_append, List.nil_append, splice, AV.cells, List.map, List.map_cons, List.map_nil, List.take, List.drop, Nat.zero_add, Nat.add_zero, Nat.reduceAdd, Nat.reduceMul, Nat.zero_mul, Value.cells, List.toList_toArray, zerosA, List.replicate, List.flatten, List.append_nil]; done) | rfl) ?_) | (refine AO.store (i := 5) rfl rfl rfl rfl rfl rfl (by first | rfl | (simp [AV.cells, AV.one, *]; done) | simp [AV.cells, AV.one, Value.oneCell', *]) (by rfl) (by rfl) (by first | (dsimp only [List.set, List.append, List.cons_append, List.nil_append, splice, AV.cells, List.map, List.map_cons, List.map_nil, List.take, List.drop, Nat.zero_add, Nat.add_zero, Nat.reduceAdd, Nat.reduceMul, Nat.zero_mul, Value.cells, List.toList_toArray, zerosA, List.replicate, List.flatten, List.append_nil]; rfl) | (dsimp only [List.set, List.append, List.cons_append, List.nil_append, splice, AV.cells, List.map, List.map_cons, List.map_nil, List.take, List.drop, Nat.zero_add, Nat.add_zero, Nat.reduceAdd, Nat.reduceMul, Nat.zero_mul, Value.cells, List.toList_toArray, zerosA, List.replicate, List.flatten, List.append_nil]; done) | rfl) (by first | (dsimp only [List.set, List.append, List.cons_append, List.nil_append, splice, AV.cells, List.map, List.map_cons, List.map_nil, List.take, List.drop, Nat.zero_add, Nat.add_zero, Nat.reduceAdd, Nat.reduceMul, Nat.zero_mul, Value.cells, List.toList_toArray, zerosA, List.replicate, List.flatten, List.append_nil]; rfl) | (dsimp only [List.set, List.append, List.cons_append, List.nil_append, splice, AV.cells, List.map, List.map_cons, List.map_nil, List.take, List.drop, Nat.zero_add, Nat.add_zero, Nat.reduceAdd, Nat.reduceMul, Nat.zero_mul, Value.cells, List.toList_toArray, zerosA, List.replicate, List.flatten, List.append_nil]; done) | rfl) ?_)
    refine AO.nil ?_
    refine AQ.thenN ?_
    refine AW.seq ?_
    refine AW.regionD 19 (by kernel_rfl) (by kernel_rfl) ?_
    simp only [List.take_succ_cons, List.take_zero, List.drop_succ_cons, List.drop_zero]
    first | (refine FA.op (O.idxLR rfl rfl rfl ⟨by omega, by omega⟩) rfl rfl rfl rfl ?_) | (refine FA.op (O.idxL rfl rfl rfl ⟨by omega, by omega⟩) rfl rfl rfl rfl ?_)
    first | (refine FA.op (O.loadR rfl rfl (by first | rfl | assumption)) rfl rfl rfl rfl ?_) | (refine FA.op (O.load rfl rfl (by repeat (first | exact List.Mem.head _ | refine List.Mem.tail _ ?_)) (by first | rfl | assumption)) rfl rfl rfl rfl ?_)
    first | (refine FA.op (O.idxLR rfl rfl rfl ⟨by omega, by omega⟩) rfl rfl rfl rfl ?_) | (refine FA.op (O.idxL rfl rfl rfl ⟨by omega, by omega⟩) rfl rfl rfl rfl ?_)
    first | (refine FA.op (O.loadR rfl rfl (by first | rfl | assumption)) rfl rfl rfl rfl ?_) | (refine FA.op (O.load rfl rfl (by repeat (first | exact List.Mem.head _ | refine List.Mem.tail _ ?_)) (by first | rfl | assumption)) rfl rfl rfl rfl ?_)
    first | (refine FA.op (O.idxLR rfl rfl rfl ⟨by omega, by omega⟩) rfl rfl rfl rfl ?_) | (refine FA.op (O.idxL rfl rfl rfl ⟨by omega, by omega⟩) rfl rfl rfl rfl ?_)
    first | (refine FA.op (O.loadR rfl rfl (by first | rfl | assumption)) rfl rfl rfl rfl ?_) | (refine FA.op (O.load rfl rfl (by repeat (first | exact List.Mem.head _ | refine List.Mem.tail _ ?_)) (by first | rfl | assumption)) rfl rfl rfl rfl ?_)
    first | (refine FA.op (O.idxLR rfl rfl rfl ⟨by omega, by omega⟩) rfl rfl rfl rfl ?_) | (refine FA.op (O.idxL rfl rfl rfl ⟨by omega, by omega⟩) rfl rfl rfl rfl ?_)
    first | (refine FA.op (O.loadR rfl rfl (by first | rfl | assumption)) rfl rfl rfl rfl ?_) | (refine FA.op (O.load rfl rfl (by repeat (first | exact List.Mem.head _ | refine List.Mem.tail _ ?_)) (by first | rfl | assumption)) rfl rfl rfl rfl ?_)
    first | (refine FA.op (O.call rfl Try.func21 rfl rfl rfl (newer_fn _ _ _ _ hb)) rfl rfl rfl rfl ?_) | (refine FA.op (O.callC rfl Try.func21 rfl rfl rfl (newer_fn _ _ _ _ hb) (by repeat (first | exact CoeL.nil | refine CoeL.cons Coe.rfl ?_ | refine CoeL.cons Coe.nil ?_ | refine CoeL.cons Coe.unfull ?_))) rfl rfl rfl rfl ?_)
    first | (refine FA.op (O.idxLR rfl rfl rfl ⟨by omega, by omega⟩) rfl rfl rfl rfl ?_) | (refine FA.op (O.idxL rfl rfl rfl ⟨by omega, by omega⟩) rfl rfl rfl rfl ?_)
    first | (refine FA.op (O.loadR rfl rfl (by first | rfl | assumption)) rfl rfl rfl rfl ?_) | (refine FA.op (O.load rfl rfl (by repeat (first | exact List.Mem.head _ | refine List.Mem.tail _ ?_)) (by first | rfl | assumption)) rfl rfl rfl rfl ?_)
    first | (refine FA.op (O.idxLR rfl rfl rfl ⟨by omega, by omega⟩) rfl rfl rfl rfl ?_) | (refine FA.op (O.idxL rfl rfl rfl ⟨by omega, by omega⟩) rfl rfl rfl rfl ?_)
    first | (refine FA.op (O.loadR rfl rfl (by first | rfl | assumption)) rfl rfl rfl rfl ?_) | (refine FA.op (O.load rfl rfl (by repeat (first | exact List.Mem.head _ | refine List.Mem.tail _ ?_)) (by first | rfl | assumption)) rfl rfl rfl rfl ?_)
    first | (refine FA.op (O.idxLR rfl rfl rfl ⟨by omega, by omega⟩) rfl rfl rfl rfl ?_) | (refine FA.op (O.idxL rfl rfl rfl ⟨by omega, by omega⟩) rfl rfl rfl rfl ?_)
    first | (refine FA.op (O.loadR rfl rfl (by first | rfl | assumption)) rfl rfl rfl rfl ?_) | (refine FA.op (O.load rfl rfl (by repeat (first | exact List.Mem.head _ | refine List.Mem.tail _ ?_)) (by first | rfl | assumption)) rfl rfl rfl rfl ?_)
    first | (refine FA.op (O.idxLR rfl rfl rfl ⟨by omega, by omega⟩) rfl rfl rfl rfl ?_) | (refine FA.op (O.idxL rfl rfl rfl ⟨by omega, by omega⟩) rfl rfl rfl rfl ?_)
    first | (refine FA.op (O.loadR rfl rfl (by first | rfl | assumption)) rfl rfl rfl rfl ?_) | (refine FA.op (O.load rfl rfl (by repeat (first | exact List.Mem.head _ | refine List.Mem.tail _ ?_)) (by first | rfl | assumption)) rfl rfl rfl rfl ?_)
    first | (refine FA.op (O.call rfl Try.func22 rfl rfl rfl (rnewer_fn _ _ _ _ hb)) rfl rfl rfl rfl ?_) | (refine FA.op (O.callC rfl Try.func22 rfl rfl rfl (rnewer_fn _ _ _ _ hb) (by repeat (first | exact CoeL.nil | refine CoeL.cons Coe.rfl ?_ | refine CoeL.cons Coe.nil ?_ | refine CoeL.cons Coe.unfull ?_))) rfl rfl rfl rfl ?_)
    refine FA.op (O.neqB rfl rfl rfl (by first | assumption | rfl)) rfl rfl rfl rfl ?_
    refine FA.nil ?_
    simp only [chosen, List.nil_append, List.cons_append, List.append_nil]
    refine AO.nil ?_
    refine AQ.thenN ?_
    refine AW.split rfl (fun hne => ?_) (fun hne => ?_)
    · skip
      simp at hne
    · skip
      refine AW.skip ?_
      refine AQ.blockN ?_
      refine AQ.thenN ?_
      refine AW.region ?_
      refine AO.op (O.add rfl rfl rfl (by first | exact wI64 (by omega) | rfl)) rfl rfl rfl ?_
      refine AO.op (O.move rfl rfl) rfl rfl rfl ?_
      refine AO.nil ?_
      refine AQ.loopN _ _ _ (by omega) (⟨k + 1, by omega, rfl, rfl, rfl⟩) (by repeat (first | exact envNil | refine envCons rfl ?_)) ⟨_, by repeat (first | exact List.Sublist.slnil | refine List.Sublist.cons_cons _ ?_ | refine List.Sublist.cons _ ?_), List.Perm.refl _⟩
  · skip
    refine AW.exit ?_
    refine AQ.thenX ?_
    refine AQ.loopX ?_
    refine AQ.blockX rfl ?_
    refine AQ.thenN ?_
    refine AW.seq ?_
    refine AW.region ?_
    first | (refine AO.op (O.call rfl Try.func11 rfl rfl rfl (awake_fn)) rfl rfl rfl ?_) | (refine AO.op (O.callC rfl Try.func11 rfl rfl rfl (awake_fn) (by repeat (first | exact CoeL.nil | refine CoeL.cons Coe.rfl ?_ | refine CoeL.cons Coe.nil ?_ | refine CoeL.cons Coe.unfull ?_))) rfl rfl rfl ?_)
    refine AO.op (O.assign rfl rfl) rfl rfl rfl ?_
    refine AO.nil ?_
    refine AQ.thenN ?_
    refine AW.ret ?_
    refine AQ.ret1 rfl rfl ⟨_, List.nil_sublist _, .nil⟩ (⟨rfl, rfl⟩)
end Go.Proofs.Ytlcoanbdaephiaa.Ob
