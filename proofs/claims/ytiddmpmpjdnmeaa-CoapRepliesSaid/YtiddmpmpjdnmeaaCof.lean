/-
  Layer 15: the reference's Valid, Size, Encode.
-/
import Derived.Test.YtiddmpmpjdnmeaaCoe
namespace Go.Proofs.Ytiddmpmpjdnmeaa.By
open Go.RowKit L A
set_option linter.unusedVariables false
set_option linter.unusedSimpArgs false
attribute [local irreducible] AW AQ AO

set_option maxHeartbeats 4000000 in
set_option maxRecDepth 20000 in
theorem rvalid_fn (m : Msg) : Sp Try.prog 26 [aggM m] [] (Is (.val (.bool (decide (ValM m))))) := by
  obtain ⟨ty, code, id, tok, opts, pay⟩ := m
  refine Sp.enter Try.func26 rfl _ Try.ntmps26 rfl (fun w0 R0 => ?_)
  refine AW.seq ?_
  refine AW.region ?_
  refine AO.opB (O.box rfl rfl rfl rfl rfl) rfl rfl rfl ?_
  intro B1
  refine AO.op (O.assign rfl rfl) rfl rfl rfl ?_
  refine AO.nil ?_
  refine AQ.thenN ?_
  refine AW.seq ?_
  refine AW.seq ?_
  refine AW.region ?_
  refine AO.op (O.fieldAddr rfl rfl) rfl rfl rfl ?_
  refine AO.op (O.load rfl rfl (by repeat (exact List.Mem.head _)) (by rfl)) rfl rfl rfl ?_
  refine AO.op (O.lss rfl rfl rfl (by rfl)) rfl rfl rfl ?_
  refine AO.op (O.move rfl rfl) rfl rfl rfl ?_
  refine AO.opG rfl rfl rfl (fun hp => O.fieldAddr rfl rfl) ?_
  refine AO.opG rfl rfl rfl (fun hp => OpW.force 11 rfl (by exact hp) (O.load rfl rfl (by repeat (exact List.Mem.head _)) (by rfl))) ?_
  refine AO.opG rfl rfl rfl (fun hp => OpW.force 12 rfl (by exact hp) (O.gtr rfl rfl rfl (by rfl))) ?_
  refine AO.op (O.pickOr rfl rfl rfl rfl (fun h => by exact congrArg (fun b => !b) h)) rfl rfl rfl ?_
  refine AO.op (O.move rfl rfl) rfl rfl rfl ?_
  refine AO.opG rfl rfl rfl (fun hp => O.fieldAddr rfl rfl) ?_
  refine AO.opG rfl rfl rfl (fun hp => OpW.force 16 rfl (by exact hp) (O.load rfl rfl (by repeat (exact List.Mem.head _)) (by rfl))) ?_
  refine AO.opG rfl rfl rfl (fun hp => OpW.force 17 rfl (by exact hp) (O.lss rfl rfl rfl (by rfl))) ?_
  refine AO.op (O.pickOr rfl rfl rfl rfl (fun h => by exact congrArg (fun b => !b) h)) rfl rfl rfl ?_
  refine AO.op (O.move rfl rfl) rfl rfl rfl ?_
  refine AO.opG rfl rfl rfl (fun hp => O.fieldAddr rfl rfl) ?_
  refine AO.opG rfl rfl rfl (fun hp => OpW.force 21 rfl (by exact hp) (O.load rfl rfl (by repeat (exact List.Mem.head _)) (by rfl))) ?_
  refine AO.opG rfl rfl rfl (fun hp => OpW.force 22 rfl (by exact hp) (O.gtr rfl rfl rfl (by rfl))) ?_
  refine AO.op (O.pickOr rfl rfl rfl rfl (fun h => by exact congrArg (fun b => !b) h)) rfl rfl rfl ?_
  refine AO.op (O.move rfl rfl) rfl rfl rfl ?_
  refine AO.opG rfl rfl rfl (fun hp => O.fieldAddr rfl rfl) ?_
  refine AO.opG rfl rfl rfl (fun hp => OpW.force 26 rfl (by exact hp) (O.load rfl rfl (by repeat (exact List.Mem.head _)) (by rfl))) ?_
  refine AO.opG rfl rfl rfl (fun hp => OpW.force 27 rfl (by exact hp) (O.lss rfl rfl rfl (by rfl))) ?_
  refine AO.op (O.pickOr rfl rfl rfl rfl (fun h => by exact congrArg (fun b => !b) h)) rfl rfl rfl ?_
  refine AO.op (O.move rfl rfl) rfl rfl rfl ?_
  refine AO.opG rfl rfl rfl (fun hp => O.fieldAddr rfl rfl) ?_
  refine AO.opG rfl rfl rfl (fun hp => OpW.force 31 rfl (by exact hp) (O.load rfl rfl (by repeat (exact List.Mem.head _)) (by rfl))) ?_
  refine AO.opG rfl rfl rfl (fun hp => OpW.force 32 rfl (by exact hp) (O.gtr rfl rfl rfl (by rfl))) ?_
  refine AO.op (O.pickOr rfl rfl rfl rfl (fun h => by exact congrArg (fun b => !b) h)) rfl rfl rfl ?_
  refine AO.op (O.move rfl rfl) rfl rfl rfl ?_
  refine AO.opG rfl rfl rfl (fun hp => O.fieldAddr rfl rfl) ?_
  refine AO.opG rfl rfl rfl (fun hp => OpW.force 36 rfl (by exact hp) (O.load rfl rfl (by repeat (exact List.Mem.head _)) (by rfl))) ?_
  refine AO.opG rfl rfl rfl (fun hp => OpW.force 37 rfl (by exact hp) (O.lenR rfl rfl)) ?_
  refine AO.opG rfl rfl rfl (fun hp => OpW.force 38 rfl (by exact hp) (O.gtr rfl rfl rfl (by rfl))) ?_
  refine AO.op (O.pickOr rfl rfl rfl rfl (fun h => by exact congrArg (fun b => !b) h)) rfl rfl rfl ?_
  refine AO.op (O.move rfl rfl) rfl rfl rfl ?_
  refine AO.opG rfl rfl rfl (fun hp => O.fieldAddr rfl rfl) ?_
  refine AO.opG rfl rfl rfl (fun hp => OpW.force 42 rfl (by exact hp) (O.load rfl rfl (by repeat (exact List.Mem.head _)) (by rfl))) ?_
  refine AO.opG rfl rfl rfl (fun hp => OpW.force 43 rfl (by exact hp) (O.lenR rfl rfl)) ?_
  refine AO.opG rfl rfl rfl (fun hp => OpW.force 44 rfl (by exact hp) (O.gtr rfl rfl rfl (by rfl))) ?_
  refine AO.op (O.pickOr rfl rfl rfl rfl (fun h => by exact congrArg (fun b => !b) h)) rfl rfl rfl ?_
  refine AO.op (O.move rfl rfl) rfl rfl rfl ?_
  refine AO.opG rfl rfl rfl (fun hp => O.fieldAddr rfl rfl) ?_
  refine AO.opG rfl rfl rfl (fun hp => OpW.force 48 rfl (by exact hp) (O.load rfl rfl (by repeat (exact List.Mem.head _)) (by rfl))) ?_
  refine AO.opG rfl rfl rfl (fun hp => OpW.force 49 rfl (by exact hp) (O.lenR rfl rfl)) ?_
  refine AO.opG rfl rfl rfl (fun hp => OpW.force 50 rfl (by exact hp) (O.gtr rfl rfl rfl (by rfl))) ?_
  refine AO.op (O.pickOr rfl rfl rfl rfl (fun h => by exact congrArg (fun b => !b) h)) rfl rfl rfl ?_
  refine AO.nil ?_
  refine AQ.thenN ?_
  refine AW.split rfl (fun h => ?_) (fun h => ?_) <;> (try simp only [decide_eq_true_eq, decide_eq_false_iff_not, beq_iff_eq, beq_eq_false_iff_ne, bne_iff_ne, bne_eq_false_iff_eq, Bool.not_eq_true', Bool.not_eq_false', Bool.not_eq_true, Bool.not_eq_false, ne_eq, Int.not_lt, Int.not_le, Bool.and_eq_true, Bool.or_eq_true, Bool.or_eq_false_iff, Bool.and_eq_false_imp, strOf_toList, Decidable.not_not] at h)
  · skip
    have e : decide (ValM ⟨ty, code, id, tok, opts, pay⟩) = false := by
      refine decide_eq_false fun hk => ?_
      obtain ⟨⟨⟨a1, a2, a3, a4, a5⟩, ⟨b1, b2, b3, b4⟩, -, -, -, b5⟩, -⟩ := hk
      simp only at *
      omega
    refine AW.seq ?_
    refine AW.region ?_
    refine AO.op (O.assign rfl rfl) rfl rfl rfl ?_
    refine AO.nil ?_
    refine AQ.thenN ?_
    refine AW.ret ?_
    refine AQ.thenR ?_
    refine AQ.ret1 rfl rfl ⟨_, List.nil_sublist _, .nil⟩ (⟨congrArg (fun z => AV.val (.bool z)) e.symm, rfl⟩)
  · skip
    have hq : IntKind.i64.wrap (code.tdiv 32) = code / 32 := by rw [cls_div (by omega), wI64 (by omega)]
    refine AW.skip ?_
    refine AQ.thenN ?_
    refine AW.seq ?_
    refine AW.region ?_
    refine AO.op (O.fieldAddr rfl rfl) rfl rfl rfl ?_
    refine AO.op (O.load rfl rfl (by repeat (exact List.Mem.head _)) (by rfl)) rfl rfl rfl ?_
    refine AO.op (O.quo rfl rfl rfl (by omega) (by rfl)) rfl rfl rfl ?_
    refine AO.op (O.assign rfl rfl) rfl rfl rfl ?_
    refine AO.nil ?_
    refine AQ.thenN ?_
    refine AW.seq ?_
    refine AW.seq ?_
    refine AW.region ?_
    refine AO.op (O.move rfl rfl) rfl rfl rfl ?_
    refine AO.op (O.neq rfl rfl rfl (by rfl)) rfl rfl rfl ?_
    refine AO.op (O.move rfl rfl) rfl rfl rfl ?_
    refine AO.opG rfl rfl rfl (fun hp => O.move rfl rfl) ?_
    refine AO.opG rfl rfl rfl (fun hp => OpW.force 59 rfl (by exact hp) (O.neq rfl rfl rfl (by rfl))) ?_
    refine AO.op (O.pickAnd rfl rfl rfl rfl (fun h => by exact h)) rfl rfl rfl ?_
    refine AO.op (O.move rfl rfl) rfl rfl rfl ?_
    refine AO.opG rfl rfl rfl (fun hp => O.move rfl rfl) ?_
    refine AO.opG rfl rfl rfl (fun hp => OpW.force 63 rfl (by exact hp) (O.neq rfl rfl rfl (by rfl))) ?_
    refine AO.op (O.pickAnd rfl rfl rfl rfl (fun h => by exact h)) rfl rfl rfl ?_
    refine AO.op (O.move rfl rfl) rfl rfl rfl ?_
    refine AO.opG rfl rfl rfl (fun hp => O.move rfl rfl) ?_
    refine AO.opG rfl rfl rfl (fun hp => OpW.force 67 rfl (by exact hp) (O.neq rfl rfl rfl (by rfl))) ?_
    refine AO.op (O.pickAnd rfl rfl rfl rfl (fun h => by exact h)) rfl rfl rfl ?_
    refine AO.nil ?_
    refine AQ.thenN ?_
    refine AW.split rfl (fun h2 => ?_) (fun h2 => ?_) <;> (try simp only [decide_eq_true_eq, decide_eq_false_iff_not, beq_iff_eq, beq_eq_false_iff_ne, bne_iff_ne, bne_eq_false_iff_eq, Bool.not_eq_true', Bool.not_eq_false', Bool.not_eq_true, Bool.not_eq_false, ne_eq, Int.not_lt, Int.not_le, Bool.and_eq_true, Bool.or_eq_true, Bool.or_eq_false_iff, Bool.and_eq_false_imp, strOf_toList, Decidable.not_not] at h2)
    · skip
      have e : decide (ValM ⟨ty, code, id, tok, opts, pay⟩) = false := by
        refine decide_eq_false fun hk => ?_
        obtain ⟨⟨⟨a1, a2, a3, a4, a5⟩, -⟩, -⟩ := hk
        simp only [ClsOk] at *
        rw [hq] at h2
        omega
      refine AW.seq ?_
      refine AW.region ?_
      refine AO.op (O.assign rfl rfl) rfl rfl rfl ?_
      refine AO.nil ?_
      refine AQ.thenN ?_
      refine AW.ret ?_
      refine AQ.thenR ?_
      refine AQ.ret1 rfl rfl ⟨_, List.nil_sublist _, .nil⟩ (⟨congrArg (fun z => AV.val (.bool z)) e.symm, rfl⟩)
    · skip
      refine AW.skip ?_
      refine AQ.thenN ?_
      refine AW.seq ?_
      refine AW.region ?_
      refine AO.op (O.assign rfl rfl) rfl rfl rfl ?_
      refine AO.nil ?_
      refine AQ.thenN ?_
      refine AW.seq ?_
      refine AW.seq ?_
      refine AW.region ?_
      refine AO.op (O.fieldAddr rfl rfl) rfl rfl rfl ?_
      refine AO.op (O.load rfl rfl (by repeat (exact List.Mem.head _)) (by rfl)) rfl rfl rfl ?_
      refine AO.op (O.lenR rfl rfl) rfl rfl rfl ?_
      refine AO.op (O.move rfl rfl) rfl rfl rfl ?_
      refine AO.nil ?_
      refine AQ.thenN ?_
      refine AW.block ?_
      refine AW.loopK [(1, _), (71, _), (72, _)] (fun nn E H => ∃ (k : Nat), (k ≤ opts.length) ∧ (AscO 0 (opts.take k)) ∧ nn = opts.length - k ∧ E = [(4, .val (.int .i64 (lastO 0 (opts.take k)))), (73, .val (.int .i64 (k : Int)))] ∧ H = [.blk B1 31 6 [.val (.int .i64 ty), .val (.int .i64 code), .val (.int .i64 id), roB tok, roO opts, roB pay]]) _ (⟨0, by omega, trivial, rfl, rfl, rfl⟩) (by repeat (first | exact envNil | refine envCons rfl ?_)) (by repeat (first | exact envNil | refine envCons rfl ?_)) (by repeat (first | exact subPnil | refine subPcons 0 rfl ?_)) ?_
      rintro nn E H ⟨k, h1, ha, rfl, rfl, rfl⟩
      dsimp only [List.cons_append, List.nil_append]
      refine AW.seq ?_
      refine AW.region ?_
      refine AO.op (O.lss rfl rfl rfl (by rfl)) rfl rfl rfl ?_
      refine AO.nil ?_
      refine AQ.thenN ?_
      refine AW.seq ?_
      refine AW.split rfl (fun h3 => ?_) (fun h3 => ?_) <;> (try simp only [decide_eq_true_eq, decide_eq_false_iff_not, beq_iff_eq, beq_eq_false_iff_ne, bne_iff_ne, bne_eq_false_iff_eq, Bool.not_eq_true', Bool.not_eq_false', Bool.not_eq_true, Bool.not_eq_false, ne_eq, Int.not_lt, Int.not_le, Bool.and_eq_true, Bool.or_eq_true, Bool.or_eq_false_iff, Bool.and_eq_false_imp, strOf_toList, Decidable.not_not] at h3)
      · skip
        have hk : k < opts.length := by omega
        refine AW.skip ?_
        refine AQ.thenN ?_
        refine AW.seq ?_
        refine AW.block ?_
        refine AW.seq ?_
        refine AW.region ?_
        refine AO.op (O.idxR rfl rfl rfl ⟨(by omega), (by omega)⟩) rfl rfl rfl ?_
        refine AO.op (O.loadRK rfl rfl (by exact getO (by omega) (by omega)) (by rfl)) rfl rfl rfl ?_
        refine AO.opB (O.alloc rfl (by (dsimp only [List.set, List.append, List.cons_append, List.nil_append, roB_cells, roI_cells, roO_cells, splice, ofConst, AV.cells, List.map, List.map_cons, List.map_nil, List.take, List.drop, Nat.zero_add, Nat.add_zero, Nat.reduceAdd, Nat.reduceMul, Nat.zero_mul, Value.cells, List.toList_toArray, zerosA, List.replicate, List.flatten, List.append_nil]; done)) (by rfl)) rfl rfl rfl ?_
        intro B2
        (refine AO.store (i := 0) rfl rfl rfl rfl rfl rfl (by rfl) (by rfl) (by rfl) (by (dsimp only [List.set, List.append, List.cons_append, List.nil_append, roB_cells, roI_cells, roO_cells, splice, ofConst, AV.cells, List.map, List.map_cons, List.map_nil, List.take, List.drop, Nat.zero_add, Nat.add_zero, Nat.reduceAdd, Nat.reduceMul, Nat.zero_mul, Value.cells, List.toList_toArray, zerosA, List.replicate, List.flatten, List.append_nil]; done)) (by (dsimp only [List.set, List.append, List.cons_append, List.nil_append, roB_cells, roI_cells, roO_cells, splice, ofConst, AV.cells, List.map, List.map_cons, List.map_nil, List.take, List.drop, Nat.zero_add, Nat.add_zero, Nat.reduceAdd, Nat.reduceMul, Nat.zero_mul, Value.cells, List.toList_toArray, zerosA, List.replicate, List.flatten, List.append_nil]; done)) ?_)
        refine AO.nil ?_
        refine AQ.thenN ?_
        refine AW.seq ?_
        refine AW.seq ?_
        refine AW.region ?_
        refine AO.op (O.fieldAddr rfl rfl) rfl rfl rfl ?_
        refine AO.op (O.load rfl rfl (by repeat (exact List.Mem.head _)) (by rfl)) rfl rfl rfl ?_
        refine AO.op (O.move rfl rfl) rfl rfl rfl ?_
        refine AO.op (O.lss rfl rfl rfl (by rfl)) rfl rfl rfl ?_
        refine AO.op (O.move rfl rfl) rfl rfl rfl ?_
        refine AO.opG rfl rfl rfl (fun hp => O.fieldAddr rfl rfl) ?_
        refine AO.opG rfl rfl rfl (fun hp => OpW.force 82 rfl (by exact hp) (O.load rfl rfl (by repeat (exact List.Mem.head _)) (by rfl))) ?_
        refine AO.opG rfl rfl rfl (fun hp => OpW.force 83 rfl (by exact hp) (O.gtr rfl rfl rfl (by rfl))) ?_
        refine AO.op (O.pickOr rfl rfl rfl rfl (fun h => by exact congrArg (fun b => !b) h)) rfl rfl rfl ?_
        refine AO.op (O.move rfl rfl) rfl rfl rfl ?_
        refine AO.opG rfl rfl rfl (fun hp => O.fieldAddr rfl rfl) ?_
        refine AO.opG rfl rfl rfl (fun hp => OpW.force 87 rfl (by exact hp) (O.load rfl rfl (by repeat (exact List.Mem.head _)) (by rfl))) ?_
        refine AO.opG rfl rfl rfl (fun hp => OpW.force 88 rfl (by exact hp) (O.lenR rfl rfl)) ?_
        refine AO.opG rfl rfl rfl (fun hp => OpW.force 89 rfl (by exact hp) (O.gtr rfl rfl rfl (by rfl))) ?_
        refine AO.op (O.pickOr rfl rfl rfl rfl (fun h => by exact congrArg (fun b => !b) h)) rfl rfl rfl ?_
        refine AO.nil ?_
        refine AQ.thenN ?_
        refine AW.split rfl (fun h4 => ?_) (fun h4 => ?_) <;> (try simp only [decide_eq_true_eq, decide_eq_false_iff_not, beq_iff_eq, beq_eq_false_iff_ne, bne_iff_ne, bne_eq_false_iff_eq, Bool.not_eq_true', Bool.not_eq_false', Bool.not_eq_true, Bool.not_eq_false, ne_eq, Int.not_lt, Int.not_le, Bool.and_eq_true, Bool.or_eq_true, Bool.or_eq_false_iff, Bool.and_eq_false_imp, strOf_toList, Decidable.not_not] at h4)
        · skip
          have e : decide (ValM ⟨ty, code, id, tok, opts, pay⟩) = false := by
            refine decide_eq_false fun hk' => ?_
            obtain ⟨⟨-, -, a1, -⟩, -⟩ := hk'
            have := AscO_at a1 hk
            simp only at this
            omega
          refine AW.seq ?_
          refine AW.region ?_
          refine AO.op (O.assign rfl rfl) rfl rfl rfl ?_
          refine AO.nil ?_
          refine AQ.thenN ?_
          refine AW.ret ?_
          refine AQ.thenR ?_
          refine AQ.blockR ?_
          refine AQ.thenR ?_
          refine AQ.loopR ?_
          refine AQ.blockR ?_
          refine AQ.thenR ?_
          refine AQ.ret1 rfl rfl ⟨_, List.nil_sublist _, .nil⟩ (⟨congrArg (fun z => AV.val (.bool z)) e.symm, rfl⟩)
        · skip
          have ha2 : AscO 0 (opts.take (k + 1)) := by
            rw [take_snoc Opt.none hk, AscO_snoc]
            exact ⟨ha, h4.1.1, h4.1.2, h4.2⟩
          have hl2 : lastO 0 (opts.take (k + 1)) = (oat opts k).num := by rw [take_snoc Opt.none hk, lastO_snoc]
          refine AW.skip ?_
          refine AQ.thenN ?_
          refine AW.region ?_
          refine AO.op (O.fieldAddr rfl rfl) rfl rfl rfl ?_
          refine AO.op (O.load rfl rfl (by repeat (exact List.Mem.head _)) (by rfl)) rfl rfl rfl ?_
          refine AO.op (O.assign rfl rfl) rfl rfl rfl ?_
          refine AO.nil ?_
          refine AQ.blockN ?_
          refine AQ.thenN ?_
          refine AW.region ?_
          refine AO.op (O.add rfl rfl rfl (by exact wI64 (by omega))) rfl rfl rfl ?_
          refine AO.op (O.move rfl rfl) rfl rfl rfl ?_
          refine AO.nil ?_
          refine AQ.loopKN _ _ _ (by omega) (⟨k + 1, by omega, ha2, rfl, by rw [hl2], rfl⟩) (by repeat (first | exact envNil | refine envCons rfl ?_)) (by repeat (first | exact envNil | refine envCons rfl ?_)) (by repeat (first | exact subPnil | refine subPcons 1 rfl ?_))
      · skip
        obtain rfl : k = opts.length := by omega
        rw [List.take_length] at ha
        have hw : IntKind.i64.wrap ((tok.length : Int) + opts.length + pay.length) = (tok.length : Int) + opts.length + pay.length := wI64 (by omega)
        refine AW.exit ?_
        refine AQ.thenX ?_
        refine AQ.loopX ?_
        refine AQ.blockX rfl ?_
        refine AQ.thenN ?_
        refine AW.seq ?_
        refine AW.seq ?_
        refine AW.region ?_
        refine AO.op (O.fieldAddr rfl rfl) rfl rfl rfl ?_
        refine AO.op (O.load rfl rfl (by repeat (exact List.Mem.head _)) (by rfl)) rfl rfl rfl ?_
        refine AO.op (O.eql rfl rfl rfl (by rfl)) rfl rfl rfl ?_
        refine AO.op (O.move rfl rfl) rfl rfl rfl ?_
        refine AO.opG rfl rfl rfl (fun hp => O.fieldAddr rfl rfl) ?_
        refine AO.opG rfl rfl rfl (fun hp => OpW.force 99 rfl (by exact hp) (O.load rfl rfl (by repeat (exact List.Mem.head _)) (by rfl))) ?_
        refine AO.opG rfl rfl rfl (fun hp => OpW.force 100 rfl (by exact hp) (O.lenR rfl rfl)) ?_
        refine AO.opG rfl rfl rfl (fun hp => O.fieldAddr rfl rfl) ?_
        refine AO.opG rfl rfl rfl (fun hp => OpW.force 102 rfl (by exact hp) (O.load rfl rfl (by repeat (exact List.Mem.head _)) (by rfl))) ?_
        refine AO.opG rfl rfl rfl (fun hp => OpW.force 103 rfl (by exact hp) (O.lenR rfl rfl)) ?_
        refine AO.opG rfl rfl rfl (fun hp => OpW.force 101 rfl (by exact hp) (OpW.force 104 rfl (by exact hp) (O.add rfl rfl rfl (by exact wI64 (by omega))))) ?_
        refine AO.opG rfl rfl rfl (fun hp => O.fieldAddr rfl rfl) ?_
        refine AO.opG rfl rfl rfl (fun hp => OpW.force 106 rfl (by exact hp) (O.load rfl rfl (by repeat (exact List.Mem.head _)) (by rfl))) ?_
        refine AO.opG rfl rfl rfl (fun hp => OpW.force 107 rfl (by exact hp) (O.lenR rfl rfl)) ?_
        refine AO.opG rfl rfl rfl (fun hp => OpW.force 105 rfl (by exact hp) (OpW.force 108 rfl (by exact hp) (O.add rfl rfl rfl (by exact wI64 (by omega))))) ?_
        refine AO.opG rfl rfl rfl (fun hp => OpW.force 109 rfl (by exact hp) (O.gtr rfl rfl rfl (by rfl))) ?_
        refine AO.op (O.pickAnd rfl rfl rfl rfl (fun h => by exact h)) rfl rfl rfl ?_
        refine AO.op (O.move rfl rfl) rfl rfl rfl ?_
        refine AO.opG rfl rfl rfl (fun hp => O.fieldAddr rfl rfl) ?_
        refine AO.opG rfl rfl rfl (fun hp => OpW.force 113 rfl (by exact hp) (O.load rfl rfl (by repeat (exact List.Mem.head _)) (by rfl))) ?_
        refine AO.opG rfl rfl rfl (fun hp => OpW.force 114 rfl (by exact hp) (O.eql rfl rfl rfl (by rfl))) ?_
        refine AO.opG rfl rfl rfl (fun hp => OpW.force 115 rfl (by exact hp) (O.move rfl rfl)) ?_
        refine AO.opG rfl rfl rfl (fun hp => O.fieldAddr rfl rfl) ?_
        refine AO.opG rfl rfl rfl (fun hp => OpW.force 117 rfl (by exact hp) (O.load rfl rfl (by repeat (exact List.Mem.head _)) (by rfl))) ?_
        refine AO.opG rfl rfl rfl (fun hp => OpW.force 118 rfl (by exact hp) (O.neq rfl rfl rfl (by rfl))) ?_
        refine AO.opG rfl rfl rfl (fun hp => OpW.force 116 rfl (by exact hp) (O.pickAnd rfl rfl rfl rfl (fun h => by simp_all))) ?_
        refine AO.op (O.pickOr rfl rfl rfl rfl (fun h => by exact congrArg (fun b => !b) h)) rfl rfl rfl ?_
        refine AO.nil ?_
        refine AQ.thenN ?_
        refine AW.split rfl (fun h5 => ?_) (fun h5 => ?_) <;> (try simp only [decide_eq_true_eq, decide_eq_false_iff_not, beq_iff_eq, beq_eq_false_iff_ne, bne_iff_ne, bne_eq_false_iff_eq, Bool.not_eq_true', Bool.not_eq_false', Bool.not_eq_true, Bool.not_eq_false, ne_eq, Int.not_lt, Int.not_le, Bool.and_eq_true, Bool.or_eq_true, Bool.or_eq_false_iff, Bool.and_eq_false_imp, strOf_toList, Decidable.not_not] at h5)
        · skip
          have e : decide (ValM ⟨ty, code, id, tok, opts, pay⟩) = false := by
            refine decide_eq_false fun hk' => ?_
            obtain ⟨⟨-, -, -, a1, a3, a2⟩, -⟩ := hk'
            simp only at a1 a2 a3
            omega
          refine AW.seq ?_
          refine AW.region ?_
          refine AO.op (O.assign rfl rfl) rfl rfl rfl ?_
          refine AO.nil ?_
          refine AQ.thenN ?_
          refine AW.ret ?_
          refine AQ.thenR ?_
          refine AQ.ret1 rfl rfl ⟨_, List.nil_sublist _, .nil⟩ (⟨congrArg (fun z => AV.val (.bool z)) e.symm, rfl⟩)
        · skip
          have hm : OkM ⟨ty, code, id, tok, opts, pay⟩ := by
            refine ⟨⟨by simp only; omega, by simp only; omega, by simp only; omega, by simp only; omega, ?_⟩, ⟨by simp only; omega, by simp only; omega, by simp only; omega, by simp only; omega⟩, ha, ?_, ?_, by simp only; omega⟩
            · rw [hq] at h2
              unfold ClsOk; simp only; omega
            · simp only; omega
            · simp only; omega
          have hl := raw_len hm
          refine AW.skip ?_
          refine AQ.thenN ?_
          refine AW.seq ?_
          refine AW.region ?_
          (refine AO.op (O.loadK rfl rfl (by repeat (exact List.Mem.head _)) (by (dsimp only [List.set, List.append, List.cons_append, List.nil_append, roB_cells, roI_cells, roO_cells, splice, ofConst, AV.cells, List.map, List.map_cons, List.map_nil, List.take, List.drop, Nat.zero_add, Nat.add_zero, Nat.reduceAdd, Nat.reduceMul, Nat.zero_mul, Value.cells, List.toList_toArray, zerosA, List.replicate, List.flatten, List.append_nil]; done)) (by rfl)) rfl rfl rfl ?_)
          refine AO.op (O.call rfl Try.func12 rfl rfl rfl (raw_fn ⟨ty, code, id, tok, opts, pay⟩ hm)) rfl rfl rfl ?_
          refine AO.op (O.lenR rfl rfl) rfl rfl rfl ?_
          refine AO.op (O.leq rfl rfl rfl (by rfl)) rfl rfl rfl ?_
          refine AO.op (O.assign rfl rfl) rfl rfl rfl ?_
          refine AO.nil ?_
          refine AQ.thenN ?_
          refine AW.ret ?_
          have e : decide (ValM ⟨ty, code, id, tok, opts, pay⟩) = decide (((raw ⟨ty, code, id, tok, opts, pay⟩).length : Int) ≤ 4096) := dec_eq (by simp [ValM, hm])
          refine AQ.ret1 rfl rfl ⟨_, List.nil_sublist _, .nil⟩ (⟨congrArg (fun z => AV.val (.bool z)) e.symm, rfl⟩)
theorem rsize_fn (m : Msg) : Sp Try.prog 27 [aggM m] [] (Is (.val (.int .i64 ((encR m).1.length : Int)))) := by
  refine Sp.enter Try.func27 rfl _ Try.ntmps27 rfl (fun w0 R0 => ?_)
  refine AW.seq ?_
  refine AW.region ?_
  refine AO.opB (O.box rfl rfl rfl rfl rfl) rfl rfl rfl ?_
  intro B1
  refine AO.op (O.assign rfl rfl) rfl rfl rfl ?_
  refine AO.nil ?_
  refine AQ.thenN ?_
  refine AW.seq ?_
  refine AW.seq ?_
  refine AW.region ?_
  (refine AO.op (O.loadK rfl rfl (by repeat (exact List.Mem.head _)) (by (dsimp only [List.set, List.append, List.cons_append, List.nil_append, roB_cells, roI_cells, roO_cells, splice, ofConst, AV.cells, List.map, List.map_cons, List.map_nil, List.take, List.drop, Nat.zero_add, Nat.add_zero, Nat.reduceAdd, Nat.reduceMul, Nat.zero_mul, Value.cells, List.toList_toArray, zerosA, List.replicate, List.flatten, List.append_nil]; done)) (by rfl)) rfl rfl rfl ?_)
  refine AO.op (O.call rfl Try.func26 rfl rfl rfl (rvalid_fn m)) rfl rfl rfl ?_
  refine AO.op (O.not rfl rfl (by rfl)) rfl rfl rfl ?_
  refine AO.nil ?_
  refine AQ.thenN ?_
  refine AW.split rfl (fun h => ?_) (fun h => ?_) <;> (try simp only [decide_eq_true_eq, decide_eq_false_iff_not, beq_iff_eq, beq_eq_false_iff_ne, bne_iff_ne, bne_eq_false_iff_eq, Bool.not_eq_true', Bool.not_eq_false', Bool.not_eq_true, Bool.not_eq_false, ne_eq, Int.not_lt, Int.not_le, Bool.and_eq_true, Bool.or_eq_true, Bool.or_eq_false_iff, Bool.and_eq_false_imp, strOf_toList, Decidable.not_not] at h)
  · skip
    have e : encR m = ([], 1) := encR_f h
    refine AW.seq ?_
    refine AW.region ?_
    refine AO.op (O.assign rfl rfl) rfl rfl rfl ?_
    refine AO.nil ?_
    refine AQ.thenN ?_
    refine AW.ret ?_
    refine AQ.thenR ?_
    refine AQ.ret1 rfl rfl ⟨_, List.nil_sublist _, .nil⟩ (⟨congrArg (fun z : List UInt8 × Int => AV.val (.int .i64 (z.1.length : Int))) e.symm, rfl⟩)
  · skip
    have hm : OkM m := h.1
    have e : encR m = (raw m, 0) := encR_t h
    refine AW.skip ?_
    refine AQ.thenN ?_
    refine AW.seq ?_
    refine AW.region ?_
    (refine AO.op (O.loadK rfl rfl (by repeat (exact List.Mem.head _)) (by (dsimp only [List.set, List.append, List.cons_append, List.nil_append, roB_cells, roI_cells, roO_cells, splice, ofConst, AV.cells, List.map, List.map_cons, List.map_nil, List.take, List.drop, Nat.zero_add, Nat.add_zero, Nat.reduceAdd, Nat.reduceMul, Nat.zero_mul, Value.cells, List.toList_toArray, zerosA, List.replicate, List.flatten, List.append_nil]; done)) (by rfl)) rfl rfl rfl ?_)
    refine AO.op (O.call rfl Try.func12 rfl rfl rfl (raw_fn m hm)) rfl rfl rfl ?_
    refine AO.op (O.lenR rfl rfl) rfl rfl rfl ?_
    refine AO.op (O.assign rfl rfl) rfl rfl rfl ?_
    refine AO.nil ?_
    refine AQ.thenN ?_
    refine AW.ret ?_
    refine AQ.ret1 rfl rfl ⟨_, List.nil_sublist _, .nil⟩ (⟨congrArg (fun z : List UInt8 × Int => AV.val (.int .i64 (z.1.length : Int))) e.symm, rfl⟩)
theorem renc_fn (m : Msg) : Sp Try.prog 21 [aggM m] [] (Is (.tup [roB (encR m).1, .val (.int .i64 (encR m).2)])) := by
  refine Sp.enter Try.func21 rfl _ Try.ntmps21 rfl (fun w0 R0 => ?_)
  refine AW.seq ?_
  refine AW.region ?_
  refine AO.opB (O.box rfl rfl rfl rfl rfl) rfl rfl rfl ?_
  intro B1
  refine AO.op (O.assign rfl rfl) rfl rfl rfl ?_
  refine AO.op (O.assign rfl rfl) rfl rfl rfl ?_
  refine AO.nil ?_
  refine AQ.thenN ?_
  refine AW.seq ?_
  refine AW.seq ?_
  refine AW.region ?_
  (refine AO.op (O.loadK rfl rfl (by repeat (exact List.Mem.head _)) (by (dsimp only [List.set, List.append, List.cons_append, List.nil_append, roB_cells, roI_cells, roO_cells, splice, ofConst, AV.cells, List.map, List.map_cons, List.map_nil, List.take, List.drop, Nat.zero_add, Nat.add_zero, Nat.reduceAdd, Nat.reduceMul, Nat.zero_mul, Value.cells, List.toList_toArray, zerosA, List.replicate, List.flatten, List.append_nil]; done)) (by rfl)) rfl rfl rfl ?_)
  refine AO.op (O.call rfl Try.func26 rfl rfl rfl (rvalid_fn m)) rfl rfl rfl ?_
  refine AO.op (O.not rfl rfl (by rfl)) rfl rfl rfl ?_
  refine AO.nil ?_
  refine AQ.thenN ?_
  refine AW.split rfl (fun h => ?_) (fun h => ?_) <;> (try simp only [decide_eq_true_eq, decide_eq_false_iff_not, beq_iff_eq, beq_eq_false_iff_ne, bne_iff_ne, bne_eq_false_iff_eq, Bool.not_eq_true', Bool.not_eq_false', Bool.not_eq_true, Bool.not_eq_false, ne_eq, Int.not_lt, Int.not_le, Bool.and_eq_true, Bool.or_eq_true, Bool.or_eq_false_iff, Bool.and_eq_false_imp, strOf_toList, Decidable.not_not] at h)
  · skip
    have e : encR m = ([], 1) := encR_f h
    refine AW.seq ?_
    refine AW.region ?_
    refine AO.op (O.assign rfl rfl) rfl rfl rfl ?_
    refine AO.op (O.assign rfl rfl) rfl rfl rfl ?_
    refine AO.nil ?_
    refine AQ.thenN ?_
    refine AW.ret ?_
    refine AQ.thenR ?_
    refine FnQ.coe (AQ.ret2 rfl rfl rfl ⟨_, List.nil_sublist _, .nil⟩ ⟨rfl, rfl⟩) (Coe.tup (by repeat (first | exact CoeL.nil | refine CoeL.cons Coe.rfl ?_ | refine CoeL.cons Coe.nil ?_))) (⟨congrArg (fun z : List UInt8 × Int => AV.tup [roB z.1, .val (.int .i64 z.2)]) e.symm, rfl⟩)
  · skip
    have hm : OkM m := h.1
    have e : encR m = (raw m, 0) := encR_t h
    refine AW.skip ?_
    refine AQ.thenN ?_
    refine AW.seq ?_
    refine AW.region ?_
    (refine AO.op (O.loadK rfl rfl (by repeat (exact List.Mem.head _)) (by (dsimp only [List.set, List.append, List.cons_append, List.nil_append, roB_cells, roI_cells, roO_cells, splice, ofConst, AV.cells, List.map, List.map_cons, List.map_nil, List.take, List.drop, Nat.zero_add, Nat.add_zero, Nat.reduceAdd, Nat.reduceMul, Nat.zero_mul, Value.cells, List.toList_toArray, zerosA, List.replicate, List.flatten, List.append_nil]; done)) (by rfl)) rfl rfl rfl ?_)
    refine AO.op (O.call rfl Try.func12 rfl rfl rfl (raw_fn m hm)) rfl rfl rfl ?_
    refine AO.op (O.assign rfl rfl) rfl rfl rfl ?_
    refine AO.op (O.assign rfl rfl) rfl rfl rfl ?_
    refine AO.nil ?_
    refine AQ.thenN ?_
    refine AW.ret ?_
    refine AQ.ret2 rfl rfl rfl ⟨_, List.nil_sublist _, .nil⟩ (⟨congrArg (fun z : List UInt8 × Int => AV.tup [roB z.1, .val (.int .i64 z.2)]) e.symm, rfl⟩)
end Go.Proofs.Ytiddmpmpjdnmeaa.By
