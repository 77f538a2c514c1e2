/-
  Layer 15: which messages are valid (program); the encoding, both.
-/
import Derived.Test.YtiddmpmpjdnmeaaCoa
namespace Go.Proofs.Ytiddmpmpjdnmeaa.By
open Go.RowKit L A
set_option linter.unusedVariables false
set_option linter.unusedSimpArgs false
attribute [local irreducible] AW AQ AO

set_option maxHeartbeats 4000000 in
theorem sound_fn (m : Msg) : Sp Try.prog 42 [aggM m] [] (Is (.val (.bool (decide (OkM m))))) := by
  obtain ⟨ty, code, id, tok, opts, pay⟩ := m
  refine Sp.enter Try.func42 rfl _ Try.ntmps42 rfl (fun w0 R0 => ?_)
  refine AW.seq ?_
  refine AW.region ?_
  refine AO.opB (O.box rfl rfl rfl rfl rfl) rfl rfl rfl ?_
  intro B1
  refine AO.op (O.assign rfl rfl) rfl rfl rfl ?_
  refine AO.nil ?_
  refine AQ.thenN ?_
  refine AW.seq ?_
  refine AW.region ?_
  refine AO.op (O.fieldAddr rfl rfl) rfl rfl rfl ?_
  refine AO.op (O.load rfl rfl (by repeat (exact List.Mem.head _)) (by rfl)) rfl rfl rfl ?_
  refine AO.op (O.shrK 5 32 rfl rfl rfl rfl (by rfl)) rfl rfl rfl ?_
  refine AO.op (O.assign rfl rfl) rfl rfl rfl ?_
  refine AO.nil ?_
  refine AQ.thenN ?_
  refine AW.seq ?_
  refine AW.seq ?_
  refine AW.region ?_
  refine AO.op (O.fieldAddr rfl rfl) rfl rfl rfl ?_
  refine AO.op (O.load rfl rfl (by repeat (exact List.Mem.head _)) (by rfl)) rfl rfl rfl ?_
  refine AO.op (O.lss rfl rfl rfl (by rfl)) rfl rfl rfl ?_
  refine AO.op (O.move rfl rfl) rfl rfl rfl ?_
  refine AO.opG rfl rfl rfl (fun hp => O.fieldAddr rfl rfl) ?_
  refine AO.opG rfl rfl rfl (fun hp => OpW.force 14 rfl (by exact hp) (O.load rfl rfl (by repeat (exact List.Mem.head _)) (by rfl))) ?_
  refine AO.opG rfl rfl rfl (fun hp => OpW.force 15 rfl (by exact hp) (O.gtr rfl rfl rfl (by rfl))) ?_
  refine AO.op (O.pickOr rfl rfl rfl rfl (fun h => by exact congrArg (fun b => !b) h)) rfl rfl rfl ?_
  refine AO.op (O.move rfl rfl) rfl rfl rfl ?_
  refine AO.opG rfl rfl rfl (fun hp => O.fieldAddr rfl rfl) ?_
  refine AO.opG rfl rfl rfl (fun hp => OpW.force 19 rfl (by exact hp) (O.load rfl rfl (by repeat (exact List.Mem.head _)) (by rfl))) ?_
  refine AO.opG rfl rfl rfl (fun hp => OpW.force 20 rfl (by exact hp) (O.lss rfl rfl rfl (by rfl))) ?_
  refine AO.op (O.pickOr rfl rfl rfl rfl (fun h => by exact congrArg (fun b => !b) h)) rfl rfl rfl ?_
  refine AO.op (O.move rfl rfl) rfl rfl rfl ?_
  refine AO.opG rfl rfl rfl (fun hp => O.fieldAddr rfl rfl) ?_
  refine AO.opG rfl rfl rfl (fun hp => OpW.force 24 rfl (by exact hp) (O.load rfl rfl (by repeat (exact List.Mem.head _)) (by rfl))) ?_
  refine AO.opG rfl rfl rfl (fun hp => OpW.force 25 rfl (by exact hp) (O.gtr rfl rfl rfl (by rfl))) ?_
  refine AO.op (O.pickOr rfl rfl rfl rfl (fun h => by exact congrArg (fun b => !b) h)) rfl rfl rfl ?_
  refine AO.op (O.move rfl rfl) rfl rfl rfl ?_
  refine AO.opG rfl rfl rfl (fun hp => O.move rfl rfl) ?_
  refine AO.opG rfl rfl rfl (fun hp => OpW.force 29 rfl (by exact hp) (O.neq rfl rfl rfl (by rfl))) ?_
  refine AO.opG rfl rfl rfl (fun hp => OpW.force 30 rfl (by exact hp) (O.move rfl rfl)) ?_
  refine AO.opG rfl rfl rfl (fun hp => O.move rfl rfl) ?_
  refine AO.opG rfl rfl rfl (fun hp => OpW.force 32 rfl (by exact hp) (O.neq rfl rfl rfl (by rfl))) ?_
  refine AO.opG rfl rfl rfl (fun hp => OpW.force 31 rfl (by exact hp) (O.pickAnd rfl rfl rfl rfl (fun h => by simp_all))) ?_
  refine AO.opG rfl rfl rfl (fun hp => OpW.force 34 rfl (by exact hp) (O.move rfl rfl)) ?_
  refine AO.opG rfl rfl rfl (fun hp => O.move rfl rfl) ?_
  refine AO.opG rfl rfl rfl (fun hp => OpW.force 36 rfl (by exact hp) (O.neq rfl rfl rfl (by rfl))) ?_
  refine AO.opG rfl rfl rfl (fun hp => OpW.force 35 rfl (by exact hp) (O.pickAnd rfl rfl rfl rfl (fun h => by simp_all))) ?_
  refine AO.opG rfl rfl rfl (fun hp => OpW.force 38 rfl (by exact hp) (O.move rfl rfl)) ?_
  refine AO.opG rfl rfl rfl (fun hp => O.move rfl rfl) ?_
  refine AO.opG rfl rfl rfl (fun hp => OpW.force 40 rfl (by exact hp) (O.neq rfl rfl rfl (by rfl))) ?_
  refine AO.opG rfl rfl rfl (fun hp => OpW.force 39 rfl (by exact hp) (O.pickAnd rfl rfl rfl rfl (fun h => by simp_all))) ?_
  refine AO.op (O.pickOr rfl rfl rfl rfl (fun h => by exact congrArg (fun b => !b) h)) rfl rfl rfl ?_
  refine AO.nil ?_
  refine AQ.thenN ?_
  refine AW.split rfl (fun h => ?_) (fun h => ?_) <;> (try simp only [decide_eq_true_eq, decide_eq_false_iff_not, beq_iff_eq, beq_eq_false_iff_ne, bne_iff_ne, bne_eq_false_iff_eq, Bool.not_eq_true', Bool.not_eq_false', Bool.not_eq_true, Bool.not_eq_false, ne_eq, Int.not_lt, Int.not_le, Bool.and_eq_true, Bool.or_eq_true, Bool.or_eq_false_iff, Bool.and_eq_false_imp, strOf_toList, Decidable.not_not] at h)
  · skip
    have e : decide (OkM ⟨ty, code, id, tok, opts, pay⟩) = false := by
      refine decide_eq_false fun hk => ?_
      obtain ⟨⟨a1, a2, a3, a4, a5⟩, -⟩ := hk
      simp only [ClsOk] at *
      omega
    refine AW.seq ?_
    refine AW.region ?_
    refine AO.op (O.assign rfl rfl) rfl rfl rfl ?_
    refine AO.nil ?_
    refine AQ.thenN ?_
    refine AW.ret ?_
    refine AQ.thenR ?_
    refine AQ.ret1 rfl rfl ⟨_, List.nil_sublist _, .nil⟩ (⟨congrArg (fun z => AV.val (.bool z)) e.symm, rfl⟩)
  · skip
    refine AW.skip ?_
    refine AQ.thenN ?_
    refine AW.seq ?_
    refine AW.seq ?_
    refine AW.region ?_
    refine AO.op (O.fieldAddr rfl rfl) rfl rfl rfl ?_
    refine AO.op (O.load rfl rfl (by repeat (exact List.Mem.head _)) (by rfl)) rfl rfl rfl ?_
    refine AO.op (O.lss rfl rfl rfl (by rfl)) rfl rfl rfl ?_
    refine AO.op (O.move rfl rfl) rfl rfl rfl ?_
    refine AO.opG rfl rfl rfl (fun hp => O.fieldAddr rfl rfl) ?_
    refine AO.opG rfl rfl rfl (fun hp => OpW.force 48 rfl (by exact hp) (O.load rfl rfl (by repeat (exact List.Mem.head _)) (by rfl))) ?_
    refine AO.opG rfl rfl rfl (fun hp => OpW.force 49 rfl (by exact hp) (O.gtr rfl rfl rfl (by rfl))) ?_
    refine AO.op (O.pickOr rfl rfl rfl rfl (fun h => by exact congrArg (fun b => !b) h)) rfl rfl rfl ?_
    refine AO.op (O.move rfl rfl) rfl rfl rfl ?_
    refine AO.opG rfl rfl rfl (fun hp => O.fieldAddr rfl rfl) ?_
    refine AO.opG rfl rfl rfl (fun hp => OpW.force 53 rfl (by exact hp) (O.load rfl rfl (by repeat (exact List.Mem.head _)) (by rfl))) ?_
    refine AO.opG rfl rfl rfl (fun hp => OpW.force 54 rfl (by exact hp) (O.lenR rfl rfl)) ?_
    refine AO.opG rfl rfl rfl (fun hp => OpW.force 55 rfl (by exact hp) (O.gtr rfl rfl rfl (by rfl))) ?_
    refine AO.op (O.pickOr rfl rfl rfl rfl (fun h => by exact congrArg (fun b => !b) h)) rfl rfl rfl ?_
    refine AO.op (O.move rfl rfl) rfl rfl rfl ?_
    refine AO.opG rfl rfl rfl (fun hp => O.fieldAddr rfl rfl) ?_
    refine AO.opG rfl rfl rfl (fun hp => OpW.force 59 rfl (by exact hp) (O.load rfl rfl (by repeat (exact List.Mem.head _)) (by rfl))) ?_
    refine AO.opG rfl rfl rfl (fun hp => OpW.force 60 rfl (by exact hp) (O.lenR rfl rfl)) ?_
    refine AO.opG rfl rfl rfl (fun hp => OpW.force 61 rfl (by exact hp) (O.gtr rfl rfl rfl (by rfl))) ?_
    refine AO.op (O.pickOr rfl rfl rfl rfl (fun h => by exact congrArg (fun b => !b) h)) rfl rfl rfl ?_
    refine AO.nil ?_
    refine AQ.thenN ?_
    refine AW.split rfl (fun h2 => ?_) (fun h2 => ?_) <;> (try simp only [decide_eq_true_eq, decide_eq_false_iff_not, beq_iff_eq, beq_eq_false_iff_ne, bne_iff_ne, bne_eq_false_iff_eq, Bool.not_eq_true', Bool.not_eq_false', Bool.not_eq_true, Bool.not_eq_false, ne_eq, Int.not_lt, Int.not_le, Bool.and_eq_true, Bool.or_eq_true, Bool.or_eq_false_iff, Bool.and_eq_false_imp, strOf_toList, Decidable.not_not] at h2)
    · skip
      have e : decide (OkM ⟨ty, code, id, tok, opts, pay⟩) = false := by
        refine decide_eq_false fun hk => ?_
        obtain ⟨-, ⟨a1, a2, a3, a4⟩, -⟩ := hk
        simp only at *
        omega
      refine AW.seq ?_
      refine AW.region ?_
      refine AO.op (O.assign rfl rfl) rfl rfl rfl ?_
      refine AO.nil ?_
      refine AQ.thenN ?_
      refine AW.ret ?_
      refine AQ.thenR ?_
      refine AQ.ret1 rfl rfl ⟨_, List.nil_sublist _, .nil⟩ (⟨congrArg (fun z => AV.val (.bool z)) e.symm, rfl⟩)
    · skip
      refine AW.skip ?_
      refine AQ.thenN ?_
      refine AW.seq ?_
      refine AW.region ?_
      refine AO.op (O.assign rfl rfl) rfl rfl rfl ?_
      refine AO.nil ?_
      refine AQ.thenN ?_
      refine AW.seq ?_
      refine AW.seq ?_
      refine AW.region ?_
      refine AO.op (O.fieldAddr rfl rfl) rfl rfl rfl ?_
      refine AO.op (O.load rfl rfl (by repeat (exact List.Mem.head _)) (by rfl)) rfl rfl rfl ?_
      refine AO.op (O.lenR rfl rfl) rfl rfl rfl ?_
      refine AO.op (O.move rfl rfl) rfl rfl rfl ?_
      refine AO.nil ?_
      refine AQ.thenN ?_
      refine AW.block ?_
      refine AW.loopK [(1, _), (65, _), (66, _)] (fun nn E H => ∃ (k : Nat), (k ≤ opts.length) ∧ (AscO 0 (opts.take k)) ∧ nn = opts.length - k ∧ E = [(4, .val (.int .i64 (lastO 0 (opts.take k)))), (67, .val (.int .i64 (k : Int)))] ∧ H = [.blk B1 31 6 [.val (.int .i64 ty), .val (.int .i64 code), .val (.int .i64 id), roB tok, roO opts, roB pay]]) _ (⟨0, by omega, trivial, rfl, rfl, rfl⟩) (by repeat (first | exact envNil | refine envCons rfl ?_)) (by repeat (first | exact envNil | refine envCons rfl ?_)) (by repeat (first | exact subPnil | refine subPcons 0 rfl ?_)) ?_
      rintro nn E H ⟨k, h1, ha, rfl, rfl, rfl⟩
      dsimp only [List.cons_append, List.nil_append]
      refine AW.seq ?_
      refine AW.region ?_
      refine AO.op (O.lss rfl rfl rfl (by rfl)) rfl rfl rfl ?_
      refine AO.nil ?_
      refine AQ.thenN ?_
      refine AW.seq ?_
      refine AW.split rfl (fun h3 => ?_) (fun h3 => ?_) <;> (try simp only [decide_eq_true_eq, decide_eq_false_iff_not, beq_iff_eq, beq_eq_false_iff_ne, bne_iff_ne, bne_eq_false_iff_eq, Bool.not_eq_true', Bool.not_eq_false', Bool.not_eq_true, Bool.not_eq_false, ne_eq, Int.not_lt, Int.not_le, Bool.and_eq_true, Bool.or_eq_true, Bool.or_eq_false_iff, Bool.and_eq_false_imp, strOf_toList, Decidable.not_not] at h3)
      · skip
        have hk : k < opts.length := by omega
        refine AW.skip ?_
        refine AQ.thenN ?_
        refine AW.seq ?_
        refine AW.block ?_
        refine AW.seq ?_
        refine AW.region ?_
        refine AO.op (O.idxR rfl rfl rfl ⟨(by omega), (by omega)⟩) rfl rfl rfl ?_
        refine AO.op (O.loadRK rfl rfl (by exact getO (by omega) (by omega)) (by rfl)) rfl rfl rfl ?_
        refine AO.opB (O.alloc rfl (by (dsimp only [List.set, List.append, List.cons_append, List.nil_append, roB_cells, roI_cells, roO_cells, splice, ofConst, AV.cells, List.map, List.map_cons, List.map_nil, List.take, List.drop, Nat.zero_add, Nat.add_zero, Nat.reduceAdd, Nat.reduceMul, Nat.zero_mul, Value.cells, List.toList_toArray, zerosA, List.replicate, List.flatten, List.append_nil]; done)) (by rfl)) rfl rfl rfl ?_
        intro B2
        (refine AO.store (i := 0) rfl rfl rfl rfl rfl rfl (by rfl) (by rfl) (by rfl) (by (dsimp only [List.set, List.append, List.cons_append, List.nil_append, roB_cells, roI_cells, roO_cells, splice, ofConst, AV.cells, List.map, List.map_cons, List.map_nil, List.take, List.drop, Nat.zero_add, Nat.add_zero, Nat.reduceAdd, Nat.reduceMul, Nat.zero_mul, Value.cells, List.toList_toArray, zerosA, List.replicate, List.flatten, List.append_nil]; done)) (by (dsimp only [List.set, List.append, List.cons_append, List.nil_append, roB_cells, roI_cells, roO_cells, splice, ofConst, AV.cells, List.map, List.map_cons, List.map_nil, List.take, List.drop, Nat.zero_add, Nat.add_zero, Nat.reduceAdd, Nat.reduceMul, Nat.zero_mul, Value.cells, List.toList_toArray, zerosA, List.replicate, List.flatten, List.append_nil]; done)) ?_)
        refine AO.nil ?_
        refine AQ.thenN ?_
        refine AW.seq ?_
        refine AW.seq ?_
        refine AW.region ?_
        refine AO.op (O.fieldAddr rfl rfl) rfl rfl rfl ?_
        refine AO.op (O.load rfl rfl (by repeat (exact List.Mem.head _)) (by rfl)) rfl rfl rfl ?_
        refine AO.op (O.move rfl rfl) rfl rfl rfl ?_
        refine AO.op (O.lss rfl rfl rfl (by rfl)) rfl rfl rfl ?_
        refine AO.op (O.move rfl rfl) rfl rfl rfl ?_
        refine AO.opG rfl rfl rfl (fun hp => O.fieldAddr rfl rfl) ?_
        refine AO.opG rfl rfl rfl (fun hp => OpW.force 76 rfl (by exact hp) (O.load rfl rfl (by repeat (exact List.Mem.head _)) (by rfl))) ?_
        refine AO.opG rfl rfl rfl (fun hp => OpW.force 77 rfl (by exact hp) (O.gtr rfl rfl rfl (by rfl))) ?_
        refine AO.op (O.pickOr rfl rfl rfl rfl (fun h => by exact congrArg (fun b => !b) h)) rfl rfl rfl ?_
        refine AO.op (O.move rfl rfl) rfl rfl rfl ?_
        refine AO.opG rfl rfl rfl (fun hp => O.fieldAddr rfl rfl) ?_
        refine AO.opG rfl rfl rfl (fun hp => OpW.force 81 rfl (by exact hp) (O.load rfl rfl (by repeat (exact List.Mem.head _)) (by rfl))) ?_
        refine AO.opG rfl rfl rfl (fun hp => OpW.force 82 rfl (by exact hp) (O.lenR rfl rfl)) ?_
        refine AO.opG rfl rfl rfl (fun hp => OpW.force 83 rfl (by exact hp) (O.gtr rfl rfl rfl (by rfl))) ?_
        refine AO.op (O.pickOr rfl rfl rfl rfl (fun h => by exact congrArg (fun b => !b) h)) rfl rfl rfl ?_
        refine AO.nil ?_
        refine AQ.thenN ?_
        refine AW.split rfl (fun h4 => ?_) (fun h4 => ?_) <;> (try simp only [decide_eq_true_eq, decide_eq_false_iff_not, beq_iff_eq, beq_eq_false_iff_ne, bne_iff_ne, bne_eq_false_iff_eq, Bool.not_eq_true', Bool.not_eq_false', Bool.not_eq_true, Bool.not_eq_false, ne_eq, Int.not_lt, Int.not_le, Bool.and_eq_true, Bool.or_eq_true, Bool.or_eq_false_iff, Bool.and_eq_false_imp, strOf_toList, Decidable.not_not] at h4)
        · skip
          have e : decide (OkM ⟨ty, code, id, tok, opts, pay⟩) = false := by
            refine decide_eq_false fun hk' => ?_
            obtain ⟨-, -, a1, -⟩ := hk'
            have := AscO_at a1 hk
            simp only at this
            omega
          refine AW.seq ?_
          refine AW.region ?_
          refine AO.op (O.assign rfl rfl) rfl rfl rfl ?_
          refine AO.nil ?_
          refine AQ.thenN ?_
          refine AW.ret ?_
          refine AQ.thenR ?_
          refine AQ.blockR ?_
          refine AQ.thenR ?_
          refine AQ.loopR ?_
          refine AQ.blockR ?_
          refine AQ.thenR ?_
          refine AQ.ret1 rfl rfl ⟨_, List.nil_sublist _, .nil⟩ (⟨congrArg (fun z => AV.val (.bool z)) e.symm, rfl⟩)
        · skip
          have ha2 : AscO 0 (opts.take (k + 1)) := by
            rw [take_snoc Opt.none hk, AscO_snoc]
            exact ⟨ha, h4.1.1, h4.1.2, h4.2⟩
          have hl2 : lastO 0 (opts.take (k + 1)) = (oat opts k).num := by rw [take_snoc Opt.none hk, lastO_snoc]
          refine AW.skip ?_
          refine AQ.thenN ?_
          refine AW.region ?_
          refine AO.op (O.fieldAddr rfl rfl) rfl rfl rfl ?_
          refine AO.op (O.load rfl rfl (by repeat (exact List.Mem.head _)) (by rfl)) rfl rfl rfl ?_
          refine AO.op (O.assign rfl rfl) rfl rfl rfl ?_
          refine AO.nil ?_
          refine AQ.blockN ?_
          refine AQ.thenN ?_
          refine AW.region ?_
          refine AO.op (O.add rfl rfl rfl (by exact wI64 (by omega))) rfl rfl rfl ?_
          refine AO.op (O.move rfl rfl) rfl rfl rfl ?_
          refine AO.nil ?_
          refine AQ.loopKN _ _ _ (by omega) (⟨k + 1, by omega, ha2, rfl, by rw [hl2], rfl⟩) (by repeat (first | exact envNil | refine envCons rfl ?_)) (by repeat (first | exact envNil | refine envCons rfl ?_)) (by repeat (first | exact subPnil | refine subPcons 1 rfl ?_))
      · skip
        obtain rfl : k = opts.length := by omega
        rw [List.take_length] at ha
        have hw : (pay.length : Int) ≤ 4096 → IntKind.i64.wrap ((tok.length : Int) + opts.length + pay.length) = (tok.length : Int) + opts.length + pay.length := fun h => wI64 (by omega)
        refine AW.exit ?_
        refine AQ.thenX ?_
        refine AQ.loopX ?_
        refine AQ.blockX rfl ?_
        refine AQ.thenN ?_
        refine AW.seq ?_
        refine AW.seq ?_
        refine AW.region ?_
        refine AO.op (O.fieldAddr rfl rfl) rfl rfl rfl ?_
        refine AO.op (O.load rfl rfl (by repeat (exact List.Mem.head _)) (by rfl)) rfl rfl rfl ?_
        refine AO.op (O.eql rfl rfl rfl (by rfl)) rfl rfl rfl ?_
        refine AO.op (O.move rfl rfl) rfl rfl rfl ?_
        refine AO.opG rfl rfl rfl (fun hp => O.fieldAddr rfl rfl) ?_
        refine AO.opG rfl rfl rfl (fun hp => OpW.force 93 rfl (by exact hp) (O.load rfl rfl (by repeat (exact List.Mem.head _)) (by rfl))) ?_
        refine AO.opG rfl rfl rfl (fun hp => OpW.force 94 rfl (by exact hp) (O.lenR rfl rfl)) ?_
        refine AO.opG rfl rfl rfl (fun hp => O.fieldAddr rfl rfl) ?_
        refine AO.opG rfl rfl rfl (fun hp => OpW.force 96 rfl (by exact hp) (O.load rfl rfl (by repeat (exact List.Mem.head _)) (by rfl))) ?_
        refine AO.opG rfl rfl rfl (fun hp => OpW.force 97 rfl (by exact hp) (O.lenR rfl rfl)) ?_
        refine AO.opG rfl rfl rfl (fun hp => OpW.force 95 rfl (by exact hp) (OpW.force 98 rfl (by exact hp) (O.add rfl rfl rfl (by exact wI64 (by omega))))) ?_
        refine AO.opG rfl rfl rfl (fun hp => O.fieldAddr rfl rfl) ?_
        refine AO.opG rfl rfl rfl (fun hp => OpW.force 100 rfl (by exact hp) (O.load rfl rfl (by repeat (exact List.Mem.head _)) (by rfl))) ?_
        refine AO.opG rfl rfl rfl (fun hp => OpW.force 101 rfl (by exact hp) (O.lenR rfl rfl)) ?_
        refine AO.opG rfl rfl rfl (fun hp => OpW.force 99 rfl (by exact hp) (OpW.force 102 rfl (by exact hp) (O.add rfl rfl rfl (by rfl)))) ?_
        refine AO.opG rfl rfl rfl (fun hp => OpW.force 103 rfl (by exact hp) (O.gtr rfl rfl rfl (by rfl))) ?_
        refine AO.op (O.pickAnd rfl rfl rfl rfl (fun h => by exact h)) rfl rfl rfl ?_
        refine AO.nil ?_
        refine AQ.thenN ?_
        refine AW.split rfl (fun h5 => ?_) (fun h5 => ?_) <;> (try simp only [decide_eq_true_eq, decide_eq_false_iff_not, beq_iff_eq, beq_eq_false_iff_ne, bne_iff_ne, bne_eq_false_iff_eq, Bool.not_eq_true', Bool.not_eq_false', Bool.not_eq_true, Bool.not_eq_false, ne_eq, Int.not_lt, Int.not_le, Bool.and_eq_true, Bool.or_eq_true, Bool.or_eq_false_iff, Bool.and_eq_false_imp, strOf_toList, Decidable.not_not] at h5)
        · skip
          have e : decide (OkM ⟨ty, code, id, tok, opts, pay⟩) = false := by
            refine decide_eq_false fun hk' => ?_
            obtain ⟨-, -, -, a1, -, a2⟩ := hk'
            simp only at a1 a2
            have h6 := h5.2
            rw [hw a2] at h6
            have := a1 h5.1
            omega
          refine AW.seq ?_
          refine AW.region ?_
          refine AO.op (O.assign rfl rfl) rfl rfl rfl ?_
          refine AO.nil ?_
          refine AQ.thenN ?_
          refine AW.ret ?_
          refine AQ.thenR ?_
          refine AQ.ret1 rfl rfl ⟨_, List.nil_sublist _, .nil⟩ (⟨congrArg (fun z => AV.val (.bool z)) e.symm, rfl⟩)
        · skip
          refine AW.skip ?_
          refine AQ.thenN ?_
          refine AW.seq ?_
          refine AW.region ?_
          refine AO.op (O.fieldAddr rfl rfl) rfl rfl rfl ?_
          refine AO.op (O.load rfl rfl (by repeat (exact List.Mem.head _)) (by rfl)) rfl rfl rfl ?_
          refine AO.op (O.neq rfl rfl rfl (by rfl)) rfl rfl rfl ?_
          refine AO.op (O.move rfl rfl) rfl rfl rfl ?_
          refine AO.opG rfl rfl rfl (fun hp => O.fieldAddr rfl rfl) ?_
          refine AO.opG rfl rfl rfl (fun hp => OpW.force 110 rfl (by exact hp) (O.load rfl rfl (by repeat (exact List.Mem.head _)) (by rfl))) ?_
          refine AO.opG rfl rfl rfl (fun hp => OpW.force 111 rfl (by exact hp) (O.eql rfl rfl rfl (by rfl))) ?_
          refine AO.op (O.pickOr rfl rfl rfl rfl (fun h => by exact congrArg (fun b => !b) h)) rfl rfl rfl ?_
          refine AO.op (O.move rfl rfl) rfl rfl rfl ?_
          refine AO.opG rfl rfl rfl (fun hp => O.fieldAddr rfl rfl) ?_
          refine AO.opG rfl rfl rfl (fun hp => OpW.force 115 rfl (by exact hp) (O.load rfl rfl (by repeat (exact List.Mem.head _)) (by rfl))) ?_
          refine AO.opG rfl rfl rfl (fun hp => OpW.force 116 rfl (by exact hp) (O.lenR rfl rfl)) ?_
          refine AO.opG rfl rfl rfl (fun hp => OpW.force 117 rfl (by exact hp) (O.leq rfl rfl rfl (by rfl))) ?_
          refine AO.op (O.pickAnd rfl rfl rfl rfl (fun h => by exact h)) rfl rfl rfl ?_
          refine AO.op (O.assign rfl rfl) rfl rfl rfl ?_
          refine AO.nil ?_
          refine AQ.thenN ?_
          refine AW.ret ?_
          have e : decide (OkM ⟨ty, code, id, tok, opts, pay⟩) = ((ty != 3 || code == 0) && decide ((pay.length : Int) ≤ 4096)) := by
            refine dec_eq ?_
            simp only [OkM, Bool.and_eq_true, Bool.or_eq_true, bne_iff_ne, beq_iff_eq, decide_eq_true_eq, ne_eq]
            constructor
            · rintro ⟨-, -, -, -, a1, a2⟩
              refine ⟨?_, a2⟩
              by_cases h9 : ty = 3
              · exact .inr (a1 h9)
              · exact .inl h9
            · rintro ⟨a1, a2⟩
              refine ⟨⟨by omega, by omega, by omega, by omega, ?_⟩, ⟨by omega, by omega, by omega, by omega⟩, ha, ?_, ?_, a2⟩
              · unfold ClsOk; omega
              · intro h9
                rcases Int.lt_or_le 0 ((tok.length : Int) + opts.length + pay.length) with h | h
                · exact absurd h (by have := h5 h9; rw [hw a2] at this; omega)
                · exact h
              · intro h9
                rcases a1 with a1 | a1
                · exact absurd h9 a1
                · exact a1
          refine AQ.ret1 rfl rfl ⟨_, List.nil_sublist _, .nil⟩ (⟨congrArg (fun z => AV.val (.bool z)) e.symm, rfl⟩)
end Go.Proofs.Ytiddmpmpjdnmeaa.By
