/-
  Layer 15: what is read.
-/
import Derived.Test.YtiddmpmpjdnmeaaCok
import Derived.Test.YtiddmpmpjdnmeaaSw
namespace Go.Proofs.Ytiddmpmpjdnmeaa.By
open Go.RowKit L A Dk
set_option linter.unusedVariables false
set_option linter.unusedSimpArgs false
attribute [local irreducible] AW AQ AO
theorem take_of {b : Nat} {r : List UInt8} {bad : Bool} {n : Int} {x r' : List UInt8} {bad' : Bool} (e : takeP r bad n = (x, r', bad')) (hn : 0 ≤ n ∧ n ≤ 1000000) :
    Sp Try.prog 40 [ptr b, .val (.int .i64 n)] [prs b r bad] (IsM (roB x) (prs b r' bad')) := by
  have := take_fn b r bad n hn
  rwa [e] at this
theorem pnumber_of {b : Nat} {r : List UInt8} {bad : Bool} {n : Int} {v : Int} {r' : List UInt8} {bad' : Bool} (e : numP r bad n = (v, r', bad')) (hn : 0 ≤ n ∧ n ≤ 15) :
    Sp Try.prog 41 [ptr b, .val (.int .u8 n)] [prs b r bad] (IsM (.val (.int .i64 v)) (prs b r' bad')) := by
  have := pnumber_fn b r bad n hn
  rwa [e] at this
abbrev decM (b x : List UInt8) (opts : List Opt) (r : List UInt8) : Msg := ⟨((bt b 0).toNat : Int) / 16 % 4, ((bt b 1).toNat : Int), ((bt b 2).toNat : Int) * 256 + ((bt b 3).toNat : Int), x, opts, r.drop 1⟩
set_option maxHeartbeats 4000000 in
theorem decode_fn (b : List UInt8) (hb : b.length ≤ 1000000) : Sp Try.prog 17 [roB b] [] (Is (resM (decS b))) := by
  have u0 := u8_lt (bt b 0)
  have u1 := u8_lt (bt b 1)
  have u2 := u8_lt (bt b 2)
  have u3 := u8_lt (bt b 3)
  refine Sp.enter Try.func17 rfl _ Try.ntmps17 rfl (fun w0 R0 => ?_)
  refine AW.seq ?_
  refine AW.region ?_
  refine AO.opB (O.alloc rfl (by (dsimp only [List.set, List.append, List.cons_append, List.nil_append, roB_cells, roI_cells, roO_cells, splice, ofConst, AV.cells, List.map, List.map_cons, List.map_nil, List.take, List.drop, Nat.zero_add, Nat.add_zero, Nat.reduceAdd, Nat.reduceMul, Nat.zero_mul, Value.cells, List.toList_toArray, zerosA, List.replicate, List.flatten, List.append_nil]; done)) (by rfl)) rfl rfl rfl ?_
  intro B1
  refine AO.op (O.assign rfl rfl) rfl rfl rfl ?_
  refine AO.nil ?_
  refine AQ.thenN ?_
  refine AW.seq ?_
  refine AW.block ?_
  refine AW.seq ?_
  refine AW.region ?_
  refine AO.op (O.move rfl rfl) rfl rfl rfl ?_
  refine AO.op (O.lenR rfl rfl) rfl rfl rfl ?_
  refine AO.op (O.gtr rfl rfl rfl (by rfl)) rfl rfl rfl ?_
  refine AO.op (O.assign rfl rfl) rfl rfl rfl ?_
  refine AO.nil ?_
  refine AQ.thenN ?_
  refine AW.split rfl (fun h => ?_) (fun h => ?_) <;> (try simp only [decide_eq_true_eq, decide_eq_false_iff_not, beq_iff_eq, beq_eq_false_iff_ne, bne_iff_ne, bne_eq_false_iff_eq, Bool.not_eq_true', Bool.not_eq_false', Bool.not_eq_true, Bool.not_eq_false, ne_eq, Int.not_lt, Int.not_le, Bool.and_eq_true, Bool.or_eq_true, Bool.or_eq_false_iff, Bool.and_eq_false_imp, strOf_toList, Decidable.not_not] at h)
  · skip
    have e : decS b = (Msg.none, 8) := by rw [decS, if_pos (by omega)]
    refine AW.seq ?_
    refine AW.region ?_
    refine AO.op (O.build rfl rfl rfl (by rfl)) rfl rfl rfl ?_
    (refine AO.store (i := 0) rfl rfl rfl rfl rfl rfl (by rfl) (by rfl) (by rfl) (by (dsimp only [List.set, List.append, List.cons_append, List.nil_append, roB_cells, roI_cells, roO_cells, splice, ofConst, AV.cells, List.map, List.map_cons, List.map_nil, List.take, List.drop, Nat.zero_add, Nat.add_zero, Nat.reduceAdd, Nat.reduceMul, Nat.zero_mul, Value.cells, List.toList_toArray, zerosA, List.replicate, List.flatten, List.append_nil]; done)) (by (dsimp only [List.set, List.append, List.cons_append, List.nil_append, roB_cells, roI_cells, roO_cells, splice, ofConst, AV.cells, List.map, List.map_cons, List.map_nil, List.take, List.drop, Nat.zero_add, Nat.add_zero, Nat.reduceAdd, Nat.reduceMul, Nat.zero_mul, Value.cells, List.toList_toArray, zerosA, List.replicate, List.flatten, List.append_nil]; done)) ?_)
    refine AO.op (O.assign rfl rfl) rfl rfl rfl ?_
    refine AO.nil ?_
    refine AQ.thenN ?_
    refine AW.ret ?_
    refine AQ.blockR ?_
    refine AQ.thenR ?_
    refine FnQ.coe (AQ.retCT rfl rfl rfl (by repeat (exact List.Mem.head _)) (by (dsimp only [List.set, List.append, List.cons_append, List.nil_append, roB_cells, roI_cells, roO_cells, splice, ofConst, AV.cells, List.map, List.map_cons, List.map_nil, List.take, List.drop, Nat.zero_add, Nat.add_zero, Nat.reduceAdd, Nat.reduceMul, Nat.zero_mul, Value.cells, List.toList_toArray, zerosA, List.replicate, List.flatten, List.append_nil]; done)) (by rfl) ⟨_, List.nil_sublist _, .nil⟩ ⟨rfl, rfl⟩) (Coe.tup (by repeat (first | exact CoeL.nil | refine CoeL.cons Coe.rfl ?_ | refine CoeL.cons Coe.nil ?_ | refine CoeL.cons (Coe.agg ?_) ?_))) (retM e rfl)
  · skip
    refine AW.seq ?_
    refine AW.region ?_
    refine AO.op (O.move rfl rfl) rfl rfl rfl ?_
    refine AO.op (O.lenR rfl rfl) rfl rfl rfl ?_
    refine AO.op (O.lss rfl rfl rfl (by rfl)) rfl rfl rfl ?_
    refine AO.op (O.assign rfl rfl) rfl rfl rfl ?_
    refine AO.nil ?_
    refine AQ.thenN ?_
    refine AW.split rfl (fun h2 => ?_) (fun h2 => ?_) <;> (try simp only [decide_eq_true_eq, decide_eq_false_iff_not, beq_iff_eq, beq_eq_false_iff_ne, bne_iff_ne, bne_eq_false_iff_eq, Bool.not_eq_true', Bool.not_eq_false', Bool.not_eq_true, Bool.not_eq_false, ne_eq, Int.not_lt, Int.not_le, Bool.and_eq_true, Bool.or_eq_true, Bool.or_eq_false_iff, Bool.and_eq_false_imp, strOf_toList, Decidable.not_not] at h2)
    · skip
      have e : decS b = (Msg.none, 2) := by rw [decS, if_neg (by omega), if_pos (by omega)]
      refine AW.seq ?_
      refine AW.region ?_
      refine AO.op (O.build rfl rfl rfl (by rfl)) rfl rfl rfl ?_
      (refine AO.store (i := 0) rfl rfl rfl rfl rfl rfl (by rfl) (by rfl) (by rfl) (by (dsimp only [List.set, List.append, List.cons_append, List.nil_append, roB_cells, roI_cells, roO_cells, splice, ofConst, AV.cells, List.map, List.map_cons, List.map_nil, List.take, List.drop, Nat.zero_add, Nat.add_zero, Nat.reduceAdd, Nat.reduceMul, Nat.zero_mul, Value.cells, List.toList_toArray, zerosA, List.replicate, List.flatten, List.append_nil]; done)) (by (dsimp only [List.set, List.append, List.cons_append, List.nil_append, roB_cells, roI_cells, roO_cells, splice, ofConst, AV.cells, List.map, List.map_cons, List.map_nil, List.take, List.drop, Nat.zero_add, Nat.add_zero, Nat.reduceAdd, Nat.reduceMul, Nat.zero_mul, Value.cells, List.toList_toArray, zerosA, List.replicate, List.flatten, List.append_nil]; done)) ?_)
      refine AO.op (O.assign rfl rfl) rfl rfl rfl ?_
      refine AO.nil ?_
      refine AQ.thenN ?_
      refine AW.ret ?_
      refine AQ.blockR ?_
      refine AQ.thenR ?_
      refine FnQ.coe (AQ.retCT rfl rfl rfl (by repeat (exact List.Mem.head _)) (by (dsimp only [List.set, List.append, List.cons_append, List.nil_append, roB_cells, roI_cells, roO_cells, splice, ofConst, AV.cells, List.map, List.map_cons, List.map_nil, List.take, List.drop, Nat.zero_add, Nat.add_zero, Nat.reduceAdd, Nat.reduceMul, Nat.zero_mul, Value.cells, List.toList_toArray, zerosA, List.replicate, List.flatten, List.append_nil]; done)) (by rfl) ⟨_, List.nil_sublist _, .nil⟩ ⟨rfl, rfl⟩) (Coe.tup (by repeat (first | exact CoeL.nil | refine CoeL.cons Coe.rfl ?_ | refine CoeL.cons Coe.nil ?_ | refine CoeL.cons (Coe.agg ?_) ?_))) (retM e rfl)
    · skip
      obtain ⟨x, r0, bad0, e0⟩ : ∃ x r0 bad0, takeP (b.drop 4) false (((bt b 0).toNat : Int) % 16) = (x, r0, bad0) := ⟨_, _, _, rfl⟩
      obtain ⟨hf0, hx⟩ := Fits.first e0
      have hl0 := takeP_len (b.drop 4) false (((bt b 0).toNat : Int) % 16) (by omega)
      rw [e0] at hl0
      simp only [List.length_drop] at hl0
      refine AW.skip ?_
      refine AQ.blockN ?_
      refine AQ.thenN ?_
      refine AW.seq ?_
      refine AW.regionD 22 (by kernel_rfl) (by kernel_rfl) ?_
      simp only [List.take_succ_cons, List.take_zero, List.drop_succ_cons, List.drop_zero]
      refine FA.op (O.move rfl rfl) rfl rfl rfl rfl ?_
      refine FA.op (O.idxR rfl rfl rfl ⟨(by omega), (by omega)⟩) rfl rfl rfl rfl ?_
      refine FA.op (O.loadR rfl rfl (by exact bt_at (k := 0) (by omega) rfl)) rfl rfl rfl rfl ?_
      refine FA.op (O.shrK 4 16 rfl rfl rfl rfl (by rfl)) rfl rfl rfl rfl ?_
      refine FA.op (O.and_ rfl rfl rfl (andU8 2 (by decide) (by decide) (m := 4) (by decide) (by omega))) rfl rfl rfl rfl ?_
      refine FA.op (O.conv rfl rfl (by exact wI64 (by omega))) rfl rfl rfl rfl ?_
      refine FA.op (O.move rfl rfl) rfl rfl rfl rfl ?_
      refine FA.op (O.idxR rfl rfl rfl ⟨(by omega), (by omega)⟩) rfl rfl rfl rfl ?_
      refine FA.op (O.loadR rfl rfl (by exact bt_at (k := 1) (by omega) rfl)) rfl rfl rfl rfl ?_
      refine FA.op (O.conv rfl rfl (by exact wI64 (by omega))) rfl rfl rfl rfl ?_
      refine FA.op (O.move rfl rfl) rfl rfl rfl rfl ?_
      refine FA.op (O.idxR rfl rfl rfl ⟨(by omega), (by omega)⟩) rfl rfl rfl rfl ?_
      refine FA.op (O.loadR rfl rfl (by exact bt_at (k := 2) (by omega) rfl)) rfl rfl rfl rfl ?_
      refine FA.op (O.conv rfl rfl (by exact wI64 (by omega))) rfl rfl rfl rfl ?_
      refine FA.op (O.shlK 8 256 rfl rfl rfl rfl (by rfl) (by exact wI64 (by omega))) rfl rfl rfl rfl ?_
      refine FA.op (O.move rfl rfl) rfl rfl rfl rfl ?_
      refine FA.op (O.idxR rfl rfl rfl ⟨(by omega), (by omega)⟩) rfl rfl rfl rfl ?_
      refine FA.op (O.loadR rfl rfl (by exact bt_at (k := 3) (by omega) rfl)) rfl rfl rfl rfl ?_
      refine FA.op (O.conv rfl rfl (by exact wI64 (by omega))) rfl rfl rfl rfl ?_
      refine FA.op (O.or_ rfl rfl rfl (orI64 8 (m := 256) (by decide) (by omega) (by omega))) rfl rfl rfl rfl ?_
      refine FA.op (O.build rfl rfl rfl (by rfl)) rfl rfl rfl rfl ?_
      refine FA.opN (O.alloc rfl (by (dsimp only [List.set, List.append, List.cons_append, List.nil_append, roB_cells, roI_cells, roO_cells, splice, ofConst, AV.cells, List.map, List.map_cons, List.map_nil, List.take, List.drop, Nat.zero_add, Nat.add_zero, Nat.reduceAdd, Nat.reduceMul, Nat.zero_mul, Value.cells, List.toList_toArray, zerosA, List.replicate, List.flatten, List.append_nil]; done)) (by rfl)) rfl rfl rfl rfl ?_
      refine FA.nil ?_
      simp only [chosen, List.nil_append, List.cons_append, List.append_nil]
      rintro _ _ ⟨B2, rfl, rfl⟩
      simp only [List.cons_append, List.nil_append]
      (refine AO.store (i := 0) rfl rfl rfl rfl rfl rfl (by rfl) (by rfl) (by rfl) (by (dsimp only [List.set, List.append, List.cons_append, List.nil_append, roB_cells, roI_cells, roO_cells, splice, ofConst, AV.cells, List.map, List.map_cons, List.map_nil, List.take, List.drop, Nat.zero_add, Nat.add_zero, Nat.reduceAdd, Nat.reduceMul, Nat.zero_mul, Value.cells, List.toList_toArray, zerosA, List.replicate, List.flatten, List.append_nil]; done)) (by (dsimp only [List.set, List.append, List.cons_append, List.nil_append, roB_cells, roI_cells, roO_cells, splice, ofConst, AV.cells, List.map, List.map_cons, List.map_nil, List.take, List.drop, Nat.zero_add, Nat.add_zero, Nat.reduceAdd, Nat.reduceMul, Nat.zero_mul, Value.cells, List.toList_toArray, zerosA, List.replicate, List.flatten, List.append_nil]; done)) ?_)
      refine AO.nil ?_
      refine AQ.thenN ?_
      refine AW.seq ?_
      refine AW.region ?_
      refine AO.op (O.move rfl rfl) rfl rfl rfl ?_
      refine AO.op (O.sliceFromB (k := 4) rfl rfl rfl (by rfl) (by omega)) rfl rfl rfl ?_
      refine AO.op (O.build rfl rfl rfl (by rfl)) rfl rfl rfl ?_
      refine AO.opB (O.alloc rfl (by (dsimp only [List.set, List.append, List.cons_append, List.nil_append, roB_cells, roI_cells, roO_cells, splice, ofConst, AV.cells, List.map, List.map_cons, List.map_nil, List.take, List.drop, Nat.zero_add, Nat.add_zero, Nat.reduceAdd, Nat.reduceMul, Nat.zero_mul, Value.cells, List.toList_toArray, zerosA, List.replicate, List.flatten, List.append_nil]; done)) (by rfl)) rfl rfl rfl ?_
      intro B3
      (refine AO.store (i := 0) rfl rfl rfl rfl rfl rfl (by rfl) (by rfl) (by rfl) (by (dsimp only [List.set, List.append, List.cons_append, List.nil_append, roB_cells, roI_cells, roO_cells, splice, ofConst, AV.cells, List.map, List.map_cons, List.map_nil, List.take, List.drop, Nat.zero_add, Nat.add_zero, Nat.reduceAdd, Nat.reduceMul, Nat.zero_mul, Value.cells, List.toList_toArray, zerosA, List.replicate, List.flatten, List.append_nil]; done)) (by (dsimp only [List.set, List.append, List.cons_append, List.nil_append, roB_cells, roI_cells, roO_cells, splice, ofConst, AV.cells, List.map, List.map_cons, List.map_nil, List.take, List.drop, Nat.zero_add, Nat.add_zero, Nat.reduceAdd, Nat.reduceMul, Nat.zero_mul, Value.cells, List.toList_toArray, zerosA, List.replicate, List.flatten, List.append_nil]; done)) ?_)
      refine AO.nil ?_
      refine AQ.thenN ?_
      refine AW.seq ?_
      refine AW.region ?_
      refine AO.op (O.move rfl rfl) rfl rfl rfl ?_
      refine AO.op (O.idxR rfl rfl rfl ⟨(by omega), (by omega)⟩) rfl rfl rfl ?_
      refine AO.op (O.loadR rfl rfl (by exact bt_at (k := 0) (by omega) rfl)) rfl rfl rfl ?_
      refine AO.op (O.and_ rfl rfl rfl (andU8 4 (by decide) (by decide) (m := 16) (by decide) (by omega))) rfl rfl rfl ?_
      refine AO.op (O.conv rfl rfl (by exact wI64 (by omega))) rfl rfl rfl ?_
      (refine AO.callM1 (i := 0) rfl rfl Try.func40 rfl rfl rfl rfl rfl rfl (take_of e0 (by omega)) (by (dsimp only [List.set, List.append, List.cons_append, List.nil_append, roB_cells, roI_cells, roO_cells, splice, ofConst, AV.cells, List.map, List.map_cons, List.map_nil, List.take, List.drop, Nat.zero_add, Nat.add_zero, Nat.reduceAdd, Nat.reduceMul, Nat.zero_mul, Value.cells, List.toList_toArray, zerosA, List.replicate, List.flatten, List.append_nil]; done)) ?_)
      refine AO.op (O.call rfl Try.func39 rfl rfl rfl (clone_fn _ (by omega))) rfl rfl rfl ?_
      refine AO.op (O.fieldAddr rfl rfl) rfl rfl rfl ?_
      (refine AO.store (i := 1) rfl rfl rfl rfl rfl rfl (by rfl) (by rfl) (by rfl) (by (dsimp only [List.set, List.append, List.cons_append, List.nil_append, roB_cells, roI_cells, roO_cells, splice, ofConst, AV.cells, List.map, List.map_cons, List.map_nil, List.take, List.drop, Nat.zero_add, Nat.add_zero, Nat.reduceAdd, Nat.reduceMul, Nat.zero_mul, Value.cells, List.toList_toArray, zerosA, List.replicate, List.flatten, List.append_nil]; done)) (by (dsimp only [List.set, List.append, List.cons_append, List.nil_append, roB_cells, roI_cells, roO_cells, splice, ofConst, AV.cells, List.map, List.map_cons, List.map_nil, List.take, List.drop, Nat.zero_add, Nat.add_zero, Nat.reduceAdd, Nat.reduceMul, Nat.zero_mul, Value.cells, List.toList_toArray, zerosA, List.replicate, List.flatten, List.append_nil]; done)) ?_)
      refine AO.nil ?_
      refine AQ.thenN ?_
      refine AW.seq ?_
      refine AW.region ?_
      refine AO.op (O.assign rfl rfl) rfl rfl rfl ?_
      refine AO.nil ?_
      refine AQ.thenN ?_
      refine AW.seq ?_
      refine AW.block ?_
      refine AW.g ?_
      refine G.nilRow 43 2 ?_
      refine AW.u ?_
      refine AW.loopK [(0, _), (2, _), (4, _), (5, _)] (fun nn E H => ∃ (opts : List Opt) (last : Int) (r : List UInt8) (bad : Bool) (V : Value), (Fits b opts last r bad) ∧ (opts.length + r.length ≤ 4096) ∧ (0 ≤ last ∧ last ≤ 65804 * opts.length) ∧ (V.oneCell' = true) ∧ nn = r.length ∧ E = [(6, .val (.int .i64 last))] ∧ H = [.row V 43 2 opts.length (optsA opts), prs B3 r bad, .blk B2 31 6 [.val (.int .i64 (((bt b 0).toNat : Int) / 16 % 4)), .val (.int .i64 ((bt b 1).toNat : Int)), .val (.int .i64 (((bt b 2).toNat : Int) * 256 + ((bt b 3).toNat : Int))), roB x, .val V, .val (.slice none 0 0)], .blk B1 31 6 [.val (.int .i64 0), .val (.int .i64 0), .val (.int .i64 0), .val (.slice none 0 0), .val (.slice none 0 0), .val (.slice none 0 0)]]) _ (⟨[], 0, r0, bad0, _, hf0, by simp; omega, by simp, rfl, rfl, rfl, rfl⟩) (by repeat (first | exact envNil | refine envCons rfl ?_)) (by repeat (first | exact envNil | refine envCons rfl ?_)) (by repeat (first | exact subPnil | refine subPcons 0 rfl ?_)) ?_
      rintro nn E H ⟨opts, last, r, bad, V, hf, hn, hl, hV, rfl, rfl, rfl⟩
      dsimp only [List.cons_append, List.nil_append]
      refine AW.seq ?_
      refine AW.seq ?_
      refine AW.region ?_
      refine AO.op (O.fieldAddr rfl rfl) rfl rfl rfl ?_
      refine AO.op (O.load rfl rfl (by repeat (first | exact List.Mem.head _ | refine List.Mem.tail _ ?_)) (by rfl)) rfl rfl rfl ?_
      refine AO.op (O.not rfl rfl (by rfl)) rfl rfl rfl ?_
      refine AO.op (O.move rfl rfl) rfl rfl rfl ?_
      refine AO.opG rfl rfl rfl (fun hp => O.fieldAddr rfl rfl) ?_
      refine AO.opG rfl rfl rfl (fun hp => OpW.force 55 rfl (by exact hp) (O.load rfl rfl (by repeat (first | exact List.Mem.head _ | refine List.Mem.tail _ ?_)) (by rfl))) ?_
      refine AO.opG rfl rfl rfl (fun hp => OpW.force 56 rfl (by exact hp) (O.lenR rfl rfl)) ?_
      refine AO.opG rfl rfl rfl (fun hp => OpW.force 57 rfl (by exact hp) (O.gtr rfl rfl rfl (by rfl))) ?_
      refine AO.op (O.pickAnd rfl rfl rfl rfl (fun h => by exact h)) rfl rfl rfl ?_
      refine AO.op (O.move rfl rfl) rfl rfl rfl ?_
      refine AO.opG rfl rfl rfl (fun hp => O.fieldAddr rfl rfl) ?_
      refine AO.opG rfl rfl rfl (fun hp => OpW.force 61 rfl (by exact hp) (O.load rfl rfl (by repeat (first | exact List.Mem.head _ | refine List.Mem.tail _ ?_)) (by rfl))) ?_
      (refine AO.opG rfl rfl rfl (fun hp => OpW.force 62 rfl (by exact hp) (O.idxR rfl rfl rfl ⟨(by omega), (by (simp only [cond_true, cond_false, Bool.not_eq_true', Bool.not_eq_false', Bool.and_eq_true, Bool.or_eq_true, Bool.or_eq_false_iff, Bool.and_eq_false_imp, decide_eq_true_eq, decide_eq_false_iff_not, beq_iff_eq, bne_iff_ne, bne_eq_false_iff_eq, ne_eq] at hp; omega))⟩)) ?_)
      (refine AO.opG rfl rfl rfl (fun hp => OpW.force 63 rfl (by exact hp) (O.loadR rfl rfl (by exact bt_at (k := 0) (by (simp only [cond_true, cond_false, Bool.not_eq_true', Bool.not_eq_false', Bool.and_eq_true, Bool.or_eq_true, Bool.or_eq_false_iff, Bool.and_eq_false_imp, decide_eq_true_eq, decide_eq_false_iff_not, beq_iff_eq, bne_iff_ne, bne_eq_false_iff_eq, ne_eq] at hp; omega)) rfl))) ?_)
      refine AO.opG rfl rfl rfl (fun hp => OpW.force 64 rfl (by exact hp) (O.neq rfl rfl rfl (by rfl))) ?_
      refine AO.op (O.pickAnd rfl rfl rfl rfl (fun h => by exact h)) rfl rfl rfl ?_
      refine AO.nil ?_
      refine AQ.thenN ?_
      refine AW.split rfl (fun h3 => ?_) (fun h3 => ?_) <;> (try simp only [decide_eq_true_eq, decide_eq_false_iff_not, beq_iff_eq, beq_eq_false_iff_ne, bne_iff_ne, bne_eq_false_iff_eq, Bool.not_eq_true', Bool.not_eq_false', Bool.not_eq_true, Bool.not_eq_false, ne_eq, Int.not_lt, Int.not_le, Bool.and_eq_true, Bool.or_eq_true, Bool.or_eq_false_iff, Bool.and_eq_false_imp, strOf_toList, Decidable.not_not] at h3)
      · skip
        obtain ⟨⟨rfl, h4⟩, h5⟩ := h3
        obtain ⟨h0, r9, rfl⟩ : ∃ h0 r9, r = h0 :: r9 := by
          cases r with
          | nil => simp at h4
          | cons h0 r9 => exact ⟨h0, r9, rfl⟩
        have u4 := u8_lt h0
        have ea : takeP (h0 :: r9) false 1 = ([h0], r9, false) := by rw [takeP, if_neg (by simp; omega)]; rfl
        obtain ⟨v1, r1, b1, e1⟩ : ∃ v1 r1 b1, numP r9 false ((h0.toNat : Int) / 16) = (v1, r1, b1) := ⟨_, _, _, rfl⟩
        obtain ⟨v2, r2, b2, e2⟩ : ∃ v2 r2 b2, numP r1 b1 ((h0.toNat : Int) % 16) = (v2, r2, b2) := ⟨_, _, _, rfl⟩
        obtain ⟨y, r3, b3, e3⟩ : ∃ y r3 b3, takeP r2 b2 v2 = (y, r3, b3) := ⟨_, _, _, rfl⟩
        have q1 := numP_le r9 false (n := (h0.toNat : Int) / 16) (by omega)
        have q2 := numP_le r1 b1 (n := (h0.toNat : Int) % 16) (by omega)
        rw [e1] at q1
        rw [e2] at q2
        simp only at q1 q2
        have q3 := takeP_len r2 b2 v2 (by omega)
        rw [e3] at q3
        simp only at q3
        simp only [List.length_cons] at hn
        have hf2 : Fits b (opts ++ [⟨last + v1, y⟩]) (last + v1) r3 b3 := hf.step (by simp) (fun e => h5 (by rw [e]; rfl)) e1 e2 e3
        have hsc : optsA (opts ++ [⟨last + v1, y⟩]) = optsA opts ++ [.val (.int .i64 (last + v1)), roB y] := optsA_snoc _ _
        refine AW.skip ?_
        refine AQ.thenN ?_
        refine AW.block ?_
        refine AW.seq ?_
        refine AW.region ?_
        (refine AO.callM1 (i := 1) rfl rfl Try.func40 rfl rfl rfl rfl rfl rfl (take_of ea (by omega)) (by (dsimp only [List.set, List.append, List.cons_append, List.nil_append, roB_cells, roI_cells, roO_cells, splice, ofConst, AV.cells, List.map, List.map_cons, List.map_nil, List.take, List.drop, Nat.zero_add, Nat.add_zero, Nat.reduceAdd, Nat.reduceMul, Nat.zero_mul, Value.cells, List.toList_toArray, zerosA, List.replicate, List.flatten, List.append_nil]; done)) ?_)
        (refine AO.op (O.idxR rfl rfl rfl ⟨(by omega), (by (simp only [List.length_take, List.length_drop, List.length_append, List.length_cons, List.length_nil, List.length_set, Nat.zero_add]; omega))⟩) rfl rfl rfl ?_)
        refine AO.op (O.loadR rfl rfl (by rfl)) rfl rfl rfl ?_
        refine AO.op (O.assign rfl rfl) rfl rfl rfl ?_
        refine AO.nil ?_
        refine AQ.thenN ?_
        refine AW.seq ?_
        refine AW.region ?_
        refine AO.op (O.move rfl rfl) rfl rfl rfl ?_
        refine AO.op (O.move rfl rfl) rfl rfl rfl ?_
        refine AO.op (O.shrK 4 16 rfl rfl rfl rfl (by rfl)) rfl rfl rfl ?_
        (refine AO.callM1 (i := 1) rfl rfl Try.func41 rfl rfl rfl rfl rfl rfl (pnumber_of e1 (by omega)) (by (dsimp only [List.set, List.append, List.cons_append, List.nil_append, roB_cells, roI_cells, roO_cells, splice, ofConst, AV.cells, List.map, List.map_cons, List.map_nil, List.take, List.drop, Nat.zero_add, Nat.add_zero, Nat.reduceAdd, Nat.reduceMul, Nat.zero_mul, Value.cells, List.toList_toArray, zerosA, List.replicate, List.flatten, List.append_nil]; done)) ?_)
        refine AO.op (O.add rfl rfl rfl (by exact wI64 (by omega))) rfl rfl rfl ?_
        refine AO.op (O.assign rfl rfl) rfl rfl rfl ?_
        refine AO.nil ?_
        refine AQ.thenN ?_
        refine AW.seq ?_
        refine AW.region ?_
        refine AO.op (O.move rfl rfl) rfl rfl rfl ?_
        refine AO.op (O.and_ rfl rfl rfl (andU8 4 (by decide) (by decide) (m := 16) (by decide) (by omega))) rfl rfl rfl ?_
        (refine AO.callM1 (i := 1) rfl rfl Try.func41 rfl rfl rfl rfl rfl rfl (pnumber_of e2 (by omega)) (by (dsimp only [List.set, List.append, List.cons_append, List.nil_append, roB_cells, roI_cells, roO_cells, splice, ofConst, AV.cells, List.map, List.map_cons, List.map_nil, List.take, List.drop, Nat.zero_add, Nat.add_zero, Nat.reduceAdd, Nat.reduceMul, Nat.zero_mul, Value.cells, List.toList_toArray, zerosA, List.replicate, List.flatten, List.append_nil]; done)) ?_)
        refine AO.op (O.assign rfl rfl) rfl rfl rfl ?_
        refine AO.nil ?_
        refine AQ.thenN ?_
        refine AW.regionS [[(0, false), (1, false), (2, false), (3, false), (4, true), (5, false), (6, false), (7, false)], [(8, true)], [(9, false)], [(10, true)]] (by kernel_rfl) (by kernel_rfl) ?_
        refine AMS.go (by exact (by exact splitBlk 5 1 rfl rfl splitNil)) ?_
        try dsimp only [List.eraseIdx]
        refine AM.op rfl (O.fieldAddr rfl rfl) rfl rfl rfl ?_
        refine AM.op rfl (O.load rfl rfl (by repeat (first | exact List.Mem.head _ | refine List.Mem.tail _ ?_)) (by rfl)) rfl rfl rfl ?_
        refine AM.op rfl (O.move rfl rfl) rfl rfl rfl ?_
        refine AM.op rfl (O.move rfl rfl) rfl rfl rfl ?_
        refine AM.main _ rfl (fun w0 R0 => ?_)
        (refine AO.callM1 (i := 0) rfl rfl Try.func40 rfl rfl rfl rfl rfl rfl (take_of e3 (by omega)) (by (dsimp only [List.set, List.append, List.cons_append, List.nil_append, roB_cells, roI_cells, roO_cells, splice, ofConst, AV.cells, List.map, List.map_cons, List.map_nil, List.take, List.drop, Nat.zero_add, Nat.add_zero, Nat.reduceAdd, Nat.reduceMul, Nat.zero_mul, Value.cells, List.toList_toArray, zerosA, List.replicate, List.flatten, List.append_nil]; done)) ?_)
        refine AM.ok ?_
        dsimp only [putE]
        refine AM.op rfl (O.call rfl Try.func39 rfl rfl rfl (clone_fn _ (by omega))) rfl rfl rfl ?_
        refine AM.op rfl (O.build rfl rfl rfl (by rfl)) rfl rfl rfl ?_
        refine AM.op rfl (OpW.frz (O.buildSlice rfl rfl rfl (by rfl) (by rfl) (by rfl) (by rfl)) (by (unfold maxLen; omega))) rfl rfl rfl ?_
        refine AM.nil ?_
        try dsimp only [List.cons_append, List.nil_append]
        refine AMS.go (by exact (splitAt' 1 rfl splitNil)) ?_
        try dsimp only [List.eraseIdx]
        refine AM.main _ rfl (fun w0 R0 => ?_)
        (refine AO.append' (i := 0) rfl rfl rfl rfl (by rfl) (by rfl) rfl rfl rfl (by exact SrcA.ro TyD.ax (by rfl) (Nat.le_of_ble_eq_true rfl)) (by rfl) (by (unfold maxLen; omega)) (by omega) (by (dsimp only [List.set, List.append, List.cons_append, List.nil_append, roB_cells, roI_cells, roO_cells, splice, ofConst, AV.cells, List.map, List.map_cons, List.map_nil, List.take, List.drop, Nat.zero_add, Nat.add_zero, Nat.reduceAdd, Nat.reduceMul, Nat.zero_mul, Value.cells, List.toList_toArray, zerosA, List.replicate, List.flatten, List.append_nil]; done)) (fun _ => by (dsimp only [List.set]; done)) ?_)
        intro V4 hV4
        refine AM.ok ?_
        dsimp only [putE]
        refine AM.nil ?_
        try dsimp only [List.cons_append, List.nil_append]
        refine AMS.go (by exact splitNil) ?_
        try dsimp only [List.eraseIdx]
        refine AM.op rfl (O.fieldAddr rfl rfl) rfl rfl rfl ?_
        refine AM.nil ?_
        try dsimp only [List.cons_append, List.nil_append]
        refine AMS.go (by exact (splitAt' 2 rfl splitNil)) ?_
        try dsimp only [List.eraseIdx]
        refine AM.main _ rfl (fun w0 R0 => ?_)
        (refine AO.store (i := 0) rfl rfl rfl rfl rfl rfl (by (simp [AV.cells, AV.one, *]; done)) (by rfl) (by rfl) (by (dsimp only [List.set, List.append, List.cons_append, List.nil_append, roB_cells, roI_cells, roO_cells, splice, ofConst, AV.cells, List.map, List.map_cons, List.map_nil, List.take, List.drop, Nat.zero_add, Nat.add_zero, Nat.reduceAdd, Nat.reduceMul, Nat.zero_mul, Value.cells, List.toList_toArray, zerosA, List.replicate, List.flatten, List.append_nil]; done)) (by (dsimp only [List.set, List.append, List.cons_append, List.nil_append, roB_cells, roI_cells, roO_cells, splice, ofConst, AV.cells, List.map, List.map_cons, List.map_nil, List.take, List.drop, Nat.zero_add, Nat.add_zero, Nat.reduceAdd, Nat.reduceMul, Nat.zero_mul, Value.cells, List.toList_toArray, zerosA, List.replicate, List.flatten, List.append_nil]; done)) ?_)
        refine AM.okN ?_
        dsimp only [putE]
        refine AM.nil ?_
        try dsimp only [List.cons_append, List.nil_append]
        refine AMS.nil ?_
        refine AQ.blockN ?_
        refine AQ.loopKN _ _ _ (by simp; omega) (⟨opts ++ [⟨last + v1, y⟩], last + v1, r3, b3, _, hf2, by simp; omega, by simp; omega, ‹_›, rfl, rfl, by rw [hsc, List.length_append]⟩) (by repeat (first | exact envNil | refine envCons rfl ?_)) (by repeat (first | exact envNil | refine envCons rfl ?_)) (by repeat (first | exact subPnil | refine subPcons 0 rfl ?_ | refine subPcons 1 rfl ?_))
      · skip
        have hend : bad = true ∨ r = [] ∨ bt r 0 = 255 := by
          cases bad with
          | true => exact .inl rfl
          | false =>
            cases r with
            | nil => exact .inr (.inl rfl)
            | cons h0 r9 => exact .inr (.inr (u8_eq.1 (h3 ⟨rfl, by simp⟩)))
        have hall := hf.all hx hend rfl rfl rfl rfl
        refine AW.g ?_
        refine G.freezeCell 0 1 4 rfl rfl rfl ?_
        refine AW.u ?_
        refine AW.g ?_
        refine G.coeCell 1 5 rfl rfl Coe.nil ?_
        refine AW.u ?_
        refine AW.exit ?_
        refine AQ.thenX ?_
        refine AQ.loopX ?_
        refine AQ.blockX rfl ?_
        refine AQ.thenN ?_
        refine AW.seq ?_
        refine AW.seq ?_
        refine AW.region ?_
        refine AO.op (O.fieldAddr rfl rfl) rfl rfl rfl ?_
        refine AO.op (O.load rfl rfl (by repeat (exact List.Mem.head _)) (by rfl)) rfl rfl rfl ?_
        refine AO.op (O.lenR rfl rfl) rfl rfl rfl ?_
        refine AO.op (O.gtr rfl rfl rfl (by rfl)) rfl rfl rfl ?_
        refine AO.nil ?_
        refine AQ.thenN ?_
        refine AW.joinK (True) [(0, _), (2, _), (4, _), (5, _)] [] [prs B3 r bad, .blk B2 31 6 [.val (.int .i64 (((bt b 0).toNat : Int) / 16 % 4)), .val (.int .i64 ((bt b 1).toNat : Int)), .val (.int .i64 (((bt b 2).toNat : Int) * 256 + ((bt b 3).toNat : Int))), roB x, roO opts, roB (r.drop 1)], .blk B1 31 6 [.val (.int .i64 0), .val (.int .i64 0), .val (.int .i64 0), .val (.slice none 0 0), .val (.slice none 0 0), .val (.slice none 0 0)]] rfl (by repeat (first | exact envNil | refine envCons rfl ?_)) (fun hb => ?_) (fun hb => ?_) (fun hj => ?_) <;> try (try simp only [decide_eq_true_eq, decide_eq_false_iff_not, beq_iff_eq, beq_eq_false_iff_ne, bne_iff_ne, bne_eq_false_iff_eq, Bool.not_eq_true', Bool.not_eq_false', Bool.not_eq_true, Bool.not_eq_false, ne_eq, Int.not_lt, Int.not_le, Bool.and_eq_true, Bool.or_eq_true, Bool.or_eq_false_iff, Bool.and_eq_false_imp, strOf_toList, Decidable.not_not] at hb)
        · skip
          have hb' := hb
          refine AW.region ?_
          refine AO.op (O.fieldAddr rfl rfl) rfl rfl rfl ?_
          refine AO.op (O.load rfl rfl (by repeat (exact List.Mem.head _)) (by rfl)) rfl rfl rfl ?_
          refine AO.op (O.sliceFromB (k := 1) rfl rfl rfl (by rfl) (by omega)) rfl rfl rfl ?_
          (refine AO.op (O.call rfl Try.func39 rfl rfl rfl (clone_fn _ (by (simp; omega)))) rfl rfl rfl ?_)
          refine AO.op (O.fieldAddr rfl rfl) rfl rfl rfl ?_
          (refine AO.store (i := 1) rfl rfl rfl rfl rfl rfl (by rfl) (by rfl) (by rfl) (by (dsimp only [List.set, List.append, List.cons_append, List.nil_append, roB_cells, roI_cells, roO_cells, splice, ofConst, AV.cells, List.map, List.map_cons, List.map_nil, List.take, List.drop, Nat.zero_add, Nat.add_zero, Nat.reduceAdd, Nat.reduceMul, Nat.zero_mul, Value.cells, List.toList_toArray, zerosA, List.replicate, List.flatten, List.append_nil]; done)) (by (dsimp only [List.set, List.append, List.cons_append, List.nil_append, roB_cells, roI_cells, roO_cells, splice, ofConst, AV.cells, List.map, List.map_cons, List.map_nil, List.take, List.drop, Nat.zero_add, Nat.add_zero, Nat.reduceAdd, Nat.reduceMul, Nat.zero_mul, Value.cells, List.toList_toArray, zerosA, List.replicate, List.flatten, List.append_nil]; done)) ?_)
          refine AO.nil ?_
          refine AQ.midK (trivial) (by repeat (first | exact envNil | refine envCons rfl ?_)) (by repeat (exact envNil)) (by repeat (first | exact subPnil | refine subPcons 0 rfl ?_))
        · skip
          have hb' := hb
          obtain rfl : r = [] := List.eq_nil_of_length_eq_zero (by omega)
          refine AW.skip ?_
          refine AQ.midK (trivial) (by repeat (first | exact envNil | refine envCons rfl ?_)) (by repeat (exact envNil)) (by repeat (first | exact subPnil | refine subPcons 0 rfl ?_))
        · dsimp only [List.cons_append, List.nil_append]
          refine AQ.thenN ?_
          refine AW.seq ?_
          refine AW.seq ?_
          refine AW.region ?_
          refine AO.op (O.fieldAddr rfl rfl) rfl rfl rfl ?_
          refine AO.op (O.load rfl rfl (by repeat (exact List.Mem.head _)) (by rfl)) rfl rfl rfl ?_
          refine AO.op (O.move rfl rfl) rfl rfl rfl ?_
          (refine AO.opG rfl rfl rfl (fun hp => O.loadK rfl rfl (by repeat (first | exact List.Mem.head _ | refine List.Mem.tail _ ?_)) (by (dsimp only [List.set, List.append, List.cons_append, List.nil_append, roB_cells, roI_cells, roO_cells, splice, ofConst, AV.cells, List.map, List.map_cons, List.map_nil, List.take, List.drop, Nat.zero_add, Nat.add_zero, Nat.reduceAdd, Nat.reduceMul, Nat.zero_mul, Value.cells, List.toList_toArray, zerosA, List.replicate, List.flatten, List.append_nil]; done)) (by rfl)) ?_)
          refine AO.opG rfl rfl rfl (fun hp => OpW.force 100 rfl (by exact hp) (O.call rfl Try.func42 rfl rfl rfl (sound_fn (decM b x opts r)))) ?_
          refine AO.opG rfl rfl rfl (fun hp => OpW.force 101 rfl (by exact hp) (O.not rfl rfl (by rfl))) ?_
          refine AO.op (O.pickOr rfl rfl rfl rfl (fun h => by exact congrArg (fun b => !b) h)) rfl rfl rfl ?_
          refine AO.op (O.move rfl rfl) rfl rfl rfl ?_
          (refine AO.opG rfl rfl rfl (fun hp => O.loadK rfl rfl (by repeat (first | exact List.Mem.head _ | refine List.Mem.tail _ ?_)) (by (dsimp only [List.set, List.append, List.cons_append, List.nil_append, roB_cells, roI_cells, roO_cells, splice, ofConst, AV.cells, List.map, List.map_cons, List.map_nil, List.take, List.drop, Nat.zero_add, Nat.add_zero, Nat.reduceAdd, Nat.reduceMul, Nat.zero_mul, Value.cells, List.toList_toArray, zerosA, List.replicate, List.flatten, List.append_nil]; done)) (by rfl)) ?_)
          (refine AO.opG rfl rfl rfl (fun hp => OpW.force 105 rfl (by exact hp) (O.call rfl Try.func44 rfl rfl rfl (encode_fn (decM b x opts r) (by have := hp; simp at this; exact this.2)))) ?_)
          refine AO.opG rfl rfl rfl (fun hp => O.move rfl rfl) ?_
          refine AO.opG rfl rfl rfl (fun hp => OpW.force 106 rfl (by exact hp) (OpW.force 107 rfl (by exact hp) (O.call rfl Try.func43 rfl rfl rfl (equal_fn _ _)))) ?_
          refine AO.opG rfl rfl rfl (fun hp => OpW.force 108 rfl (by exact hp) (O.not rfl rfl (by rfl))) ?_
          refine AO.op (O.pickOr rfl rfl rfl rfl (fun h => by exact congrArg (fun b => !b) h)) rfl rfl rfl ?_
          refine AO.nil ?_
          refine AQ.thenN ?_
          refine AW.split rfl (fun h6 => ?_) (fun h6 => ?_) <;> (try simp only [decide_eq_true_eq, decide_eq_false_iff_not, beq_iff_eq, beq_eq_false_iff_ne, bne_iff_ne, bne_eq_false_iff_eq, Bool.not_eq_true', Bool.not_eq_false', Bool.not_eq_true, Bool.not_eq_false, ne_eq, Int.not_lt, Int.not_le, Bool.and_eq_true, Bool.or_eq_true, Bool.or_eq_false_iff, Bool.and_eq_false_imp, strOf_toList, Decidable.not_not] at h6)
          · skip
            have e : decS b = (Msg.none, 4) := decS_no (by omega) (by omega) fun m hm hr => by
              obtain ⟨g1, g2⟩ := hall m hm hr
              subst g2
              rcases h6 with (h6 | h6) | h6
              · rw [g1] at h6; cases h6
              · exact h6 hm
              · exact h6 hr
            refine AW.seq ?_
            refine AW.region ?_
            refine AO.op (O.build rfl rfl rfl (by rfl)) rfl rfl rfl ?_
            (refine AO.store (i := 2) rfl rfl rfl rfl rfl rfl (by rfl) (by rfl) (by rfl) (by (dsimp only [List.set, List.append, List.cons_append, List.nil_append, roB_cells, roI_cells, roO_cells, splice, ofConst, AV.cells, List.map, List.map_cons, List.map_nil, List.take, List.drop, Nat.zero_add, Nat.add_zero, Nat.reduceAdd, Nat.reduceMul, Nat.zero_mul, Value.cells, List.toList_toArray, zerosA, List.replicate, List.flatten, List.append_nil]; done)) (by (dsimp only [List.set, List.append, List.cons_append, List.nil_append, roB_cells, roI_cells, roO_cells, splice, ofConst, AV.cells, List.map, List.map_cons, List.map_nil, List.take, List.drop, Nat.zero_add, Nat.add_zero, Nat.reduceAdd, Nat.reduceMul, Nat.zero_mul, Value.cells, List.toList_toArray, zerosA, List.replicate, List.flatten, List.append_nil]; done)) ?_)
            refine AO.op (O.assign rfl rfl) rfl rfl rfl ?_
            refine AO.nil ?_
            refine AQ.thenN ?_
            refine AW.ret ?_
            refine AQ.thenR ?_
            refine FnQ.coe (AQ.retCT rfl rfl rfl (by repeat (first | exact List.Mem.head _ | refine List.Mem.tail _ ?_)) (by (dsimp only [List.set, List.append, List.cons_append, List.nil_append, roB_cells, roI_cells, roO_cells, splice, ofConst, AV.cells, List.map, List.map_cons, List.map_nil, List.take, List.drop, Nat.zero_add, Nat.add_zero, Nat.reduceAdd, Nat.reduceMul, Nat.zero_mul, Value.cells, List.toList_toArray, zerosA, List.replicate, List.flatten, List.append_nil]; done)) (by rfl) ⟨_, List.nil_sublist _, .nil⟩ ⟨rfl, rfl⟩) (Coe.tup (by repeat (first | exact CoeL.nil | refine CoeL.cons Coe.rfl ?_ | refine CoeL.cons Coe.nil ?_ | refine CoeL.cons (Coe.agg ?_) ?_))) (retM e rfl)
          · skip
            have e : decS b = (decM b x opts r, 0) := decS_yes (by omega) (by omega) h6.1.2 h6.2 fun m hm hr => (hall m hm hr).2
            refine AW.skip ?_
            refine AQ.thenN ?_
            refine AW.seq ?_
            refine AW.region ?_
            (refine AO.op (O.loadK rfl rfl (by repeat (first | exact List.Mem.head _ | refine List.Mem.tail _ ?_)) (by (dsimp only [List.set, List.append, List.cons_append, List.nil_append, roB_cells, roI_cells, roO_cells, splice, ofConst, AV.cells, List.map, List.map_cons, List.map_nil, List.take, List.drop, Nat.zero_add, Nat.add_zero, Nat.reduceAdd, Nat.reduceMul, Nat.zero_mul, Value.cells, List.toList_toArray, zerosA, List.replicate, List.flatten, List.append_nil]; done)) (by rfl)) rfl rfl rfl ?_)
            (refine AO.store (i := 2) rfl rfl rfl rfl rfl rfl (by rfl) (by rfl) (by rfl) (by (dsimp only [List.set, List.append, List.cons_append, List.nil_append, roB_cells, roI_cells, roO_cells, splice, ofConst, AV.cells, List.map, List.map_cons, List.map_nil, List.take, List.drop, Nat.zero_add, Nat.add_zero, Nat.reduceAdd, Nat.reduceMul, Nat.zero_mul, Value.cells, List.toList_toArray, zerosA, List.replicate, List.flatten, List.append_nil]; done)) (by (dsimp only [List.set, List.append, List.cons_append, List.nil_append, roB_cells, roI_cells, roO_cells, splice, ofConst, AV.cells, List.map, List.map_cons, List.map_nil, List.take, List.drop, Nat.zero_add, Nat.add_zero, Nat.reduceAdd, Nat.reduceMul, Nat.zero_mul, Value.cells, List.toList_toArray, zerosA, List.replicate, List.flatten, List.append_nil]; done)) ?_)
            refine AO.op (O.assign rfl rfl) rfl rfl rfl ?_
            refine AO.nil ?_
            refine AQ.thenN ?_
            refine AW.ret ?_
            refine FnQ.coe (AQ.retCT rfl rfl rfl (by repeat (first | exact List.Mem.head _ | refine List.Mem.tail _ ?_)) (by (dsimp only [List.set, List.append, List.cons_append, List.nil_append, roB_cells, roI_cells, roO_cells, splice, ofConst, AV.cells, List.map, List.map_cons, List.map_nil, List.take, List.drop, Nat.zero_add, Nat.add_zero, Nat.reduceAdd, Nat.reduceMul, Nat.zero_mul, Value.cells, List.toList_toArray, zerosA, List.replicate, List.flatten, List.append_nil]; done)) (by rfl) ⟨_, List.nil_sublist _, .nil⟩ ⟨rfl, rfl⟩) (Coe.tup (by repeat (first | exact CoeL.nil | refine CoeL.cons Coe.rfl ?_))) (retM e rfl)
end Go.Proofs.Ytiddmpmpjdnmeaa.By
