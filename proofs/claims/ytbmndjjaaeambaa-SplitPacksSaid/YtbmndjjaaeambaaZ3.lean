/-
  Texts laid together (part 3): what the statement's walk and plain law need. No condition.
-/
import Derived.Test.YtbmndjjaaeambaaZ2
/-
  Layer 15: the reference's Valid, Size, Encode.
-/
namespace Go.Proofs.Ytbmndjjaaeambaa.By
open Go.RowKit L A
set_option linter.unusedVariables false
set_option linter.unusedSimpArgs false
attribute [local irreducible] AW AQ AO

set_option maxHeartbeats 4000000 in
set_option maxRecDepth 20000 in
theorem rvalid_fn (m : Msg) : Sp Try.prog 59 [aggM m] [] (Is (.val (.bool (decide (ValM m))))) := by
  obtain ⟨ty, code, id, tok, opts, pay⟩ := m
  refine Sp.enter Try.func59 rfl _ Try.ntmps59 rfl (fun w0 R0 => ?_)
  refine AW.seq ?_
  refine AW.region ?_
  refine AO.opB (O.box rfl rfl rfl rfl rfl) rfl rfl rfl ?_
  intro B1
  refine AO.op (O.assign rfl rfl) rfl rfl rfl ?_
  refine AO.nil ?_
  refine AQ.thenN ?_
  refine AW.seq ?_
  refine AW.seq ?_
  refine AW.region ?_
  refine AO.op (O.fieldAddr rfl rfl) rfl rfl rfl ?_
  refine AO.op (O.load rfl rfl (by repeat (exact List.Mem.head _)) (by rfl)) rfl rfl rfl ?_
  refine AO.op (O.lss rfl rfl rfl (by rfl)) rfl rfl rfl ?_
  refine AO.op (O.move rfl rfl) rfl rfl rfl ?_
  refine AO.opG rfl rfl rfl (fun hp => O.fieldAddr rfl rfl) ?_
  refine AO.opG rfl rfl rfl (fun hp => OpW.force 11 rfl (by exact hp) (O.load rfl rfl (by repeat (exact List.Mem.head _)) (by rfl))) ?_
  refine AO.opG rfl rfl rfl (fun hp => OpW.force 12 rfl (by exact hp) (O.gtr rfl rfl rfl (by rfl))) ?_
  refine AO.op (O.pickOr rfl rfl rfl rfl (fun h => by exact congrArg (fun b => !b) h)) rfl rfl rfl ?_
  refine AO.op (O.move rfl rfl) rfl rfl rfl ?_
  refine AO.opG rfl rfl rfl (fun hp => O.fieldAddr rfl rfl) ?_
  refine AO.opG rfl rfl rfl (fun hp => OpW.force 16 rfl (by exact hp) (O.load rfl rfl (by repeat (exact List.Mem.head _)) (by rfl))) ?_
  refine AO.opG rfl rfl rfl (fun hp => OpW.force 17 rfl (by exact hp) (O.lss rfl rfl rfl (by rfl))) ?_
  refine AO.op (O.pickOr rfl rfl rfl rfl (fun h => by exact congrArg (fun b => !b) h)) rfl rfl rfl ?_
  refine AO.op (O.move rfl rfl) rfl rfl rfl ?_
  refine AO.opG rfl rfl rfl (fun hp => O.fieldAddr rfl rfl) ?_
  refine AO.opG rfl rfl rfl (fun hp => OpW.force 21 rfl (by exact hp) (O.load rfl rfl (by repeat (exact List.Mem.head _)) (by rfl))) ?_
  refine AO.opG rfl rfl rfl (fun hp => OpW.force 22 rfl (by exact hp) (O.gtr rfl rfl rfl (by rfl))) ?_
  refine AO.op (O.pickOr rfl rfl rfl rfl (fun h => by exact congrArg (fun b => !b) h)) rfl rfl rfl ?_
  refine AO.op (O.move rfl rfl) rfl rfl rfl ?_
  refine AO.opG rfl rfl rfl (fun hp => O.fieldAddr rfl rfl) ?_
  refine AO.opG rfl rfl rfl (fun hp => OpW.force 26 rfl (by exact hp) (O.load rfl rfl (by repeat (exact List.Mem.head _)) (by rfl))) ?_
  refine AO.opG rfl rfl rfl (fun hp => OpW.force 27 rfl (by exact hp) (O.lss rfl rfl rfl (by rfl))) ?_
  refine AO.op (O.pickOr rfl rfl rfl rfl (fun h => by exact congrArg (fun b => !b) h)) rfl rfl rfl ?_
  refine AO.op (O.move rfl rfl) rfl rfl rfl ?_
  refine AO.opG rfl rfl rfl (fun hp => O.fieldAddr rfl rfl) ?_
  refine AO.opG rfl rfl rfl (fun hp => OpW.force 31 rfl (by exact hp) (O.load rfl rfl (by repeat (exact List.Mem.head _)) (by rfl))) ?_
  refine AO.opG rfl rfl rfl (fun hp => OpW.force 32 rfl (by exact hp) (O.gtr rfl rfl rfl (by rfl))) ?_
  refine AO.op (O.pickOr rfl rfl rfl rfl (fun h => by exact congrArg (fun b => !b) h)) rfl rfl rfl ?_
  refine AO.op (O.move rfl rfl) rfl rfl rfl ?_
  refine AO.opG rfl rfl rfl (fun hp => O.fieldAddr rfl rfl) ?_
  refine AO.opG rfl rfl rfl (fun hp => OpW.force 36 rfl (by exact hp) (O.load rfl rfl (by repeat (exact List.Mem.head _)) (by rfl))) ?_
  refine AO.opG rfl rfl rfl (fun hp => OpW.force 37 rfl (by exact hp) (O.lenR rfl rfl)) ?_
  refine AO.opG rfl rfl rfl (fun hp => OpW.force 38 rfl (by exact hp) (O.gtr rfl rfl rfl (by rfl))) ?_
  refine AO.op (O.pickOr rfl rfl rfl rfl (fun h => by exact congrArg (fun b => !b) h)) rfl rfl rfl ?_
  refine AO.op (O.move rfl rfl) rfl rfl rfl ?_
  refine AO.opG rfl rfl rfl (fun hp => O.fieldAddr rfl rfl) ?_
  refine AO.opG rfl rfl rfl (fun hp => OpW.force 42 rfl (by exact hp) (O.load rfl rfl (by repeat (exact List.Mem.head _)) (by rfl))) ?_
  refine AO.opG rfl rfl rfl (fun hp => OpW.force 43 rfl (by exact hp) (O.lenR rfl rfl)) ?_
  refine AO.opG rfl rfl rfl (fun hp => OpW.force 44 rfl (by exact hp) (O.gtr rfl rfl rfl (by rfl))) ?_
  refine AO.op (O.pickOr rfl rfl rfl rfl (fun h => by exact congrArg (fun b => !b) h)) rfl rfl rfl ?_
  refine AO.op (O.move rfl rfl) rfl rfl rfl ?_
  refine AO.opG rfl rfl rfl (fun hp => O.fieldAddr rfl rfl) ?_
  refine AO.opG rfl rfl rfl (fun hp => OpW.force 48 rfl (by exact hp) (O.load rfl rfl (by repeat (exact List.Mem.head _)) (by rfl))) ?_
  refine AO.opG rfl rfl rfl (fun hp => OpW.force 49 rfl (by exact hp) (O.lenR rfl rfl)) ?_
  refine AO.opG rfl rfl rfl (fun hp => OpW.force 50 rfl (by exact hp) (O.gtr rfl rfl rfl (by rfl))) ?_
  refine AO.op (O.pickOr rfl rfl rfl rfl (fun h => by exact congrArg (fun b => !b) h)) rfl rfl rfl ?_
  refine AO.nil ?_
  refine AQ.thenN ?_
  refine AW.split rfl (fun h => ?_) (fun h => ?_) <;> (try simp only [decide_eq_true_eq, decide_eq_false_iff_not, beq_iff_eq, beq_eq_false_iff_ne, bne_iff_ne, bne_eq_false_iff_eq, Bool.not_eq_true', Bool.not_eq_false', Bool.not_eq_true, Bool.not_eq_false, ne_eq, Int.not_lt, Int.not_le, Bool.and_eq_true, Bool.or_eq_true, Bool.or_eq_false_iff, Bool.and_eq_false_imp, strOf_toList, Decidable.not_not] at h)
  · skip
    have e : decide (ValM ⟨ty, code, id, tok, opts, pay⟩) = false := by
      refine decide_eq_false fun hk => ?_
      obtain ⟨⟨⟨a1, a2, a3, a4, a5⟩, ⟨b1, b2, b3, b4⟩, -, -, -, b5⟩, -⟩ := hk
      simp only at *
      omega
    refine AW.seq ?_
    refine AW.region ?_
    refine AO.op (O.assign rfl rfl) rfl rfl rfl ?_
    refine AO.nil ?_
    refine AQ.thenN ?_
    refine AW.ret ?_
    refine AQ.thenR ?_
    refine AQ.ret1 rfl rfl ⟨_, List.nil_sublist _, .nil⟩ (⟨congrArg (fun z => AV.val (.bool z)) e.symm, rfl⟩)
  · skip
    have hq : IntKind.i64.wrap (code.tdiv 32) = code / 32 := by rw [cls_div (by omega), wI64 (by omega)]
    refine AW.skip ?_
    refine AQ.thenN ?_
    refine AW.seq ?_
    refine AW.region ?_
    refine AO.op (O.fieldAddr rfl rfl) rfl rfl rfl ?_
    refine AO.op (O.load rfl rfl (by repeat (exact List.Mem.head _)) (by rfl)) rfl rfl rfl ?_
    refine AO.op (O.quo rfl rfl rfl (by omega) (by rfl)) rfl rfl rfl ?_
    refine AO.op (O.assign rfl rfl) rfl rfl rfl ?_
    refine AO.nil ?_
    refine AQ.thenN ?_
    refine AW.seq ?_
    refine AW.seq ?_
    refine AW.region ?_
    refine AO.op (O.move rfl rfl) rfl rfl rfl ?_
    refine AO.op (O.neq rfl rfl rfl (by rfl)) rfl rfl rfl ?_
    refine AO.op (O.move rfl rfl) rfl rfl rfl ?_
    refine AO.opG rfl rfl rfl (fun hp => O.move rfl rfl) ?_
    refine AO.opG rfl rfl rfl (fun hp => OpW.force 59 rfl (by exact hp) (O.neq rfl rfl rfl (by rfl))) ?_
    refine AO.op (O.pickAnd rfl rfl rfl rfl (fun h => by exact h)) rfl rfl rfl ?_
    refine AO.op (O.move rfl rfl) rfl rfl rfl ?_
    refine AO.opG rfl rfl rfl (fun hp => O.move rfl rfl) ?_
    refine AO.opG rfl rfl rfl (fun hp => OpW.force 63 rfl (by exact hp) (O.neq rfl rfl rfl (by rfl))) ?_
    refine AO.op (O.pickAnd rfl rfl rfl rfl (fun h => by exact h)) rfl rfl rfl ?_
    refine AO.op (O.move rfl rfl) rfl rfl rfl ?_
    refine AO.opG rfl rfl rfl (fun hp => O.move rfl rfl) ?_
    refine AO.opG rfl rfl rfl (fun hp => OpW.force 67 rfl (by exact hp) (O.neq rfl rfl rfl (by rfl))) ?_
    refine AO.op (O.pickAnd rfl rfl rfl rfl (fun h => by exact h)) rfl rfl rfl ?_
    refine AO.nil ?_
    refine AQ.thenN ?_
    refine AW.split rfl (fun h2 => ?_) (fun h2 => ?_) <;> (try simp only [decide_eq_true_eq, decide_eq_false_iff_not, beq_iff_eq, beq_eq_false_iff_ne, bne_iff_ne, bne_eq_false_iff_eq, Bool.not_eq_true', Bool.not_eq_false', Bool.not_eq_true, Bool.not_eq_false, ne_eq, Int.not_lt, Int.not_le, Bool.and_eq_true, Bool.or_eq_true, Bool.or_eq_false_iff, Bool.and_eq_false_imp, strOf_toList, Decidable.not_not] at h2)
    · skip
      have e : decide (ValM ⟨ty, code, id, tok, opts, pay⟩) = false := by
        refine decide_eq_false fun hk => ?_
        obtain ⟨⟨⟨a1, a2, a3, a4, a5⟩, -⟩, -⟩ := hk
        simp only [ClsOk] at *
        rw [hq] at h2
        omega
      refine AW.seq ?_
      refine AW.region ?_
      refine AO.op (O.assign rfl rfl) rfl rfl rfl ?_
      refine AO.nil ?_
      refine AQ.thenN ?_
      refine AW.ret ?_
      refine AQ.thenR ?_
      refine AQ.ret1 rfl rfl ⟨_, List.nil_sublist _, .nil⟩ (⟨congrArg (fun z => AV.val (.bool z)) e.symm, rfl⟩)
    · skip
      refine AW.skip ?_
      refine AQ.thenN ?_
      refine AW.seq ?_
      refine AW.region ?_
      refine AO.op (O.assign rfl rfl) rfl rfl rfl ?_
      refine AO.nil ?_
      refine AQ.thenN ?_
      refine AW.seq ?_
      refine AW.seq ?_
      refine AW.region ?_
      refine AO.op (O.fieldAddr rfl rfl) rfl rfl rfl ?_
      refine AO.op (O.load rfl rfl (by repeat (exact List.Mem.head _)) (by rfl)) rfl rfl rfl ?_
      refine AO.op (O.lenR rfl rfl) rfl rfl rfl ?_
      refine AO.op (O.move rfl rfl) rfl rfl rfl ?_
      refine AO.nil ?_
      refine AQ.thenN ?_
      refine AW.block ?_
      refine AW.loopK [(1, _), (71, _), (72, _)] (fun nn E H => ∃ (k : Nat), (k ≤ opts.length) ∧ (AscO 0 (opts.take k)) ∧ nn = opts.length - k ∧ E = [(4, .val (.int .i64 (lastO 0 (opts.take k)))), (73, .val (.int .i64 (k : Int)))] ∧ H = [.blk B1 29 6 [.val (.int .i64 ty), .val (.int .i64 code), .val (.int .i64 id), roB tok, roO opts, roB pay]]) _ (⟨0, by omega, trivial, rfl, rfl, rfl⟩) (by repeat (first | exact envNil | refine envCons rfl ?_)) (by repeat (first | exact envNil | refine envCons rfl ?_)) (by repeat (first | exact subPnil | refine subPcons 0 rfl ?_)) ?_
      rintro nn E H ⟨k, h1, ha, rfl, rfl, rfl⟩
      dsimp only [List.cons_append, List.nil_append]
      refine AW.seq ?_
      refine AW.region ?_
      refine AO.op (O.lss rfl rfl rfl (by rfl)) rfl rfl rfl ?_
      refine AO.nil ?_
      refine AQ.thenN ?_
      refine AW.seq ?_
      refine AW.split rfl (fun h3 => ?_) (fun h3 => ?_) <;> (try simp only [decide_eq_true_eq, decide_eq_false_iff_not, beq_iff_eq, beq_eq_false_iff_ne, bne_iff_ne, bne_eq_false_iff_eq, Bool.not_eq_true', Bool.not_eq_false', Bool.not_eq_true, Bool.not_eq_false, ne_eq, Int.not_lt, Int.not_le, Bool.and_eq_true, Bool.or_eq_true, Bool.or_eq_false_iff, Bool.and_eq_false_imp, strOf_toList, Decidable.not_not] at h3)
      · skip
        have hk : k < opts.length := by omega
        refine AW.skip ?_
        refine AQ.thenN ?_
        refine AW.seq ?_
        refine AW.block ?_
        refine AW.seq ?_
        refine AW.region ?_
        refine AO.op (O.idxR rfl rfl rfl ⟨(by omega), (by omega)⟩) rfl rfl rfl ?_
        refine AO.op (O.loadRK rfl rfl (by exact getO (by omega) (by omega)) (by rfl)) rfl rfl rfl ?_
        refine AO.opB (O.alloc rfl (by (dsimp only [List.set, List.append, List.cons_append, List.nil_append, roB_cells, roI_cells, roO_cells, splice, ofConst, AV.cells, List.map, List.map_cons, List.map_nil, List.take, List.drop, Nat.zero_add, Nat.add_zero, Nat.reduceAdd, Nat.reduceMul, Nat.zero_mul, Value.cells, List.toList_toArray, zerosA, List.replicate, List.flatten, List.append_nil]; done)) (by rfl)) rfl rfl rfl ?_
        intro B2
        (refine AO.store (i := 0) rfl rfl rfl rfl rfl rfl (by rfl) (by rfl) (by rfl) (by rfl) (by (dsimp only [List.set, List.append, List.cons_append, List.nil_append, roB_cells, roI_cells, roO_cells, splice, ofConst, AV.cells, List.map, List.map_cons, List.map_nil, List.take, List.drop, Nat.zero_add, Nat.add_zero, Nat.reduceAdd, Nat.reduceMul, Nat.zero_mul, Value.cells, List.toList_toArray, zerosA, List.replicate, List.flatten, List.append_nil]; done)) ?_)
        refine AO.nil ?_
        refine AQ.thenN ?_
        refine AW.seq ?_
        refine AW.seq ?_
        refine AW.region ?_
        refine AO.op (O.fieldAddr rfl rfl) rfl rfl rfl ?_
        refine AO.op (O.load rfl rfl (by repeat (exact List.Mem.head _)) (by rfl)) rfl rfl rfl ?_
        refine AO.op (O.move rfl rfl) rfl rfl rfl ?_
        refine AO.op (O.lss rfl rfl rfl (by rfl)) rfl rfl rfl ?_
        refine AO.op (O.move rfl rfl) rfl rfl rfl ?_
        refine AO.opG rfl rfl rfl (fun hp => O.fieldAddr rfl rfl) ?_
        refine AO.opG rfl rfl rfl (fun hp => OpW.force 82 rfl (by exact hp) (O.load rfl rfl (by repeat (exact List.Mem.head _)) (by rfl))) ?_
        refine AO.opG rfl rfl rfl (fun hp => OpW.force 83 rfl (by exact hp) (O.gtr rfl rfl rfl (by rfl))) ?_
        refine AO.op (O.pickOr rfl rfl rfl rfl (fun h => by exact congrArg (fun b => !b) h)) rfl rfl rfl ?_
        refine AO.op (O.move rfl rfl) rfl rfl rfl ?_
        refine AO.opG rfl rfl rfl (fun hp => O.fieldAddr rfl rfl) ?_
        refine AO.opG rfl rfl rfl (fun hp => OpW.force 87 rfl (by exact hp) (O.load rfl rfl (by repeat (exact List.Mem.head _)) (by rfl))) ?_
        refine AO.opG rfl rfl rfl (fun hp => OpW.force 88 rfl (by exact hp) (O.lenR rfl rfl)) ?_
        refine AO.opG rfl rfl rfl (fun hp => OpW.force 89 rfl (by exact hp) (O.gtr rfl rfl rfl (by rfl))) ?_
        refine AO.op (O.pickOr rfl rfl rfl rfl (fun h => by exact congrArg (fun b => !b) h)) rfl rfl rfl ?_
        refine AO.nil ?_
        refine AQ.thenN ?_
        refine AW.split rfl (fun h4 => ?_) (fun h4 => ?_) <;> (try simp only [decide_eq_true_eq, decide_eq_false_iff_not, beq_iff_eq, beq_eq_false_iff_ne, bne_iff_ne, bne_eq_false_iff_eq, Bool.not_eq_true', Bool.not_eq_false', Bool.not_eq_true, Bool.not_eq_false, ne_eq, Int.not_lt, Int.not_le, Bool.and_eq_true, Bool.or_eq_true, Bool.or_eq_false_iff, Bool.and_eq_false_imp, strOf_toList, Decidable.not_not] at h4)
        · skip
          have e : decide (ValM ⟨ty, code, id, tok, opts, pay⟩) = false := by
            refine decide_eq_false fun hk' => ?_
            obtain ⟨⟨-, -, a1, -⟩, -⟩ := hk'
            have := AscO_at a1 hk
            simp only at this
            omega
          refine AW.seq ?_
          refine AW.region ?_
          refine AO.op (O.assign rfl rfl) rfl rfl rfl ?_
          refine AO.nil ?_
          refine AQ.thenN ?_
          refine AW.ret ?_
          refine AQ.thenR ?_
          refine AQ.blockR ?_
          refine AQ.thenR ?_
          refine AQ.loopR ?_
          refine AQ.blockR ?_
          refine AQ.thenR ?_
          refine AQ.ret1 rfl rfl ⟨_, List.nil_sublist _, .nil⟩ (⟨congrArg (fun z => AV.val (.bool z)) e.symm, rfl⟩)
        · skip
          have ha2 : AscO 0 (opts.take (k + 1)) := by
            rw [take_snoc Opt.none hk, AscO_snoc]
            exact ⟨ha, h4.1.1, h4.1.2, h4.2⟩
          have hl2 : lastO 0 (opts.take (k + 1)) = (oat opts k).num := by rw [take_snoc Opt.none hk, lastO_snoc]
          refine AW.skip ?_
          refine AQ.thenN ?_
          refine AW.region ?_
          refine AO.op (O.fieldAddr rfl rfl) rfl rfl rfl ?_
          refine AO.op (O.load rfl rfl (by repeat (exact List.Mem.head _)) (by rfl)) rfl rfl rfl ?_
          refine AO.op (O.assign rfl rfl) rfl rfl rfl ?_
          refine AO.nil ?_
          refine AQ.blockN ?_
          refine AQ.thenN ?_
          refine AW.region ?_
          refine AO.op (O.add rfl rfl rfl (by exact wI64 (by omega))) rfl rfl rfl ?_
          refine AO.op (O.move rfl rfl) rfl rfl rfl ?_
          refine AO.nil ?_
          refine AQ.loopKN _ _ _ (by omega) (⟨k + 1, by omega, ha2, rfl, by rw [hl2], rfl⟩) (by repeat (first | exact envNil | refine envCons rfl ?_)) (by repeat (first | exact envNil | refine envCons rfl ?_)) (by repeat (first | exact subPnil | refine subPcons 1 rfl ?_))
      · skip
        obtain rfl : k = opts.length := by omega
        rw [List.take_length] at ha
        have hw : IntKind.i64.wrap ((tok.length : Int) + opts.length + pay.length) = (tok.length : Int) + opts.length + pay.length := wI64 (by omega)
        refine AW.exit ?_
        refine AQ.thenX ?_
        refine AQ.loopX ?_
        refine AQ.blockX rfl ?_
        refine AQ.thenN ?_
        refine AW.seq ?_
        refine AW.seq ?_
        refine AW.region ?_
        refine AO.op (O.fieldAddr rfl rfl) rfl rfl rfl ?_
        refine AO.op (O.load rfl rfl (by repeat (exact List.Mem.head _)) (by rfl)) rfl rfl rfl ?_
        refine AO.op (O.eql rfl rfl rfl (by rfl)) rfl rfl rfl ?_
        refine AO.op (O.move rfl rfl) rfl rfl rfl ?_
        refine AO.opG rfl rfl rfl (fun hp => O.fieldAddr rfl rfl) ?_
        refine AO.opG rfl rfl rfl (fun hp => OpW.force 99 rfl (by exact hp) (O.load rfl rfl (by repeat (exact List.Mem.head _)) (by rfl))) ?_
        refine AO.opG rfl rfl rfl (fun hp => OpW.force 100 rfl (by exact hp) (O.lenR rfl rfl)) ?_
        refine AO.opG rfl rfl rfl (fun hp => O.fieldAddr rfl rfl) ?_
        refine AO.opG rfl rfl rfl (fun hp => OpW.force 102 rfl (by exact hp) (O.load rfl rfl (by repeat (exact List.Mem.head _)) (by rfl))) ?_
        refine AO.opG rfl rfl rfl (fun hp => OpW.force 103 rfl (by exact hp) (O.lenR rfl rfl)) ?_
        refine AO.opG rfl rfl rfl (fun hp => OpW.force 101 rfl (by exact hp) (OpW.force 104 rfl (by exact hp) (O.add rfl rfl rfl (by exact wI64 (by omega))))) ?_
        refine AO.opG rfl rfl rfl (fun hp => O.fieldAddr rfl rfl) ?_
        refine AO.opG rfl rfl rfl (fun hp => OpW.force 106 rfl (by exact hp) (O.load rfl rfl (by repeat (exact List.Mem.head _)) (by rfl))) ?_
        refine AO.opG rfl rfl rfl (fun hp => OpW.force 107 rfl (by exact hp) (O.lenR rfl rfl)) ?_
        refine AO.opG rfl rfl rfl (fun hp => OpW.force 105 rfl (by exact hp) (OpW.force 108 rfl (by exact hp) (O.add rfl rfl rfl (by exact wI64 (by omega))))) ?_
        refine AO.opG rfl rfl rfl (fun hp => OpW.force 109 rfl (by exact hp) (O.gtr rfl rfl rfl (by rfl))) ?_
        refine AO.op (O.pickAnd rfl rfl rfl rfl (fun h => by exact h)) rfl rfl rfl ?_
        refine AO.op (O.move rfl rfl) rfl rfl rfl ?_
        refine AO.opG rfl rfl rfl (fun hp => O.fieldAddr rfl rfl) ?_
        refine AO.opG rfl rfl rfl (fun hp => OpW.force 113 rfl (by exact hp) (O.load rfl rfl (by repeat (exact List.Mem.head _)) (by rfl))) ?_
        refine AO.opG rfl rfl rfl (fun hp => OpW.force 114 rfl (by exact hp) (O.eql rfl rfl rfl (by rfl))) ?_
        refine AO.opG rfl rfl rfl (fun hp => OpW.force 115 rfl (by exact hp) (O.move rfl rfl)) ?_
        refine AO.opG rfl rfl rfl (fun hp => O.fieldAddr rfl rfl) ?_
        refine AO.opG rfl rfl rfl (fun hp => OpW.force 117 rfl (by exact hp) (O.load rfl rfl (by repeat (exact List.Mem.head _)) (by rfl))) ?_
        refine AO.opG rfl rfl rfl (fun hp => OpW.force 118 rfl (by exact hp) (O.neq rfl rfl rfl (by rfl))) ?_
        refine AO.opG rfl rfl rfl (fun hp => OpW.force 116 rfl (by exact hp) (O.pickAnd rfl rfl rfl rfl (fun h => by simp_all))) ?_
        refine AO.op (O.pickOr rfl rfl rfl rfl (fun h => by exact congrArg (fun b => !b) h)) rfl rfl rfl ?_
        refine AO.nil ?_
        refine AQ.thenN ?_
        refine AW.split rfl (fun h5 => ?_) (fun h5 => ?_) <;> (try simp only [decide_eq_true_eq, decide_eq_false_iff_not, beq_iff_eq, beq_eq_false_iff_ne, bne_iff_ne, bne_eq_false_iff_eq, Bool.not_eq_true', Bool.not_eq_false', Bool.not_eq_true, Bool.not_eq_false, ne_eq, Int.not_lt, Int.not_le, Bool.and_eq_true, Bool.or_eq_true, Bool.or_eq_false_iff, Bool.and_eq_false_imp, strOf_toList, Decidable.not_not] at h5)
        · skip
          have e : decide (ValM ⟨ty, code, id, tok, opts, pay⟩) = false := by
            refine decide_eq_false fun hk' => ?_
            obtain ⟨⟨-, -, -, a1, a3, a2⟩, -⟩ := hk'
            simp only at a1 a2 a3
            omega
          refine AW.seq ?_
          refine AW.region ?_
          refine AO.op (O.assign rfl rfl) rfl rfl rfl ?_
          refine AO.nil ?_
          refine AQ.thenN ?_
          refine AW.ret ?_
          refine AQ.thenR ?_
          refine AQ.ret1 rfl rfl ⟨_, List.nil_sublist _, .nil⟩ (⟨congrArg (fun z => AV.val (.bool z)) e.symm, rfl⟩)
        · skip
          have hm : OkM ⟨ty, code, id, tok, opts, pay⟩ := by
            refine ⟨⟨by simp only; omega, by simp only; omega, by simp only; omega, by simp only; omega, ?_⟩, ⟨by simp only; omega, by simp only; omega, by simp only; omega, by simp only; omega⟩, ha, ?_, ?_, by simp only; omega⟩
            · rw [hq] at h2
              unfold ClsOk; simp only; omega
            · simp only; omega
            · simp only; omega
          have hl := raw_len hm
          refine AW.skip ?_
          refine AQ.thenN ?_
          refine AW.seq ?_
          refine AW.region ?_
          (refine AO.op (O.loadK rfl rfl (by repeat (exact List.Mem.head _)) (by (dsimp only [List.set, List.append, List.cons_append, List.nil_append, roB_cells, roI_cells, roO_cells, splice, ofConst, AV.cells, List.map, List.map_cons, List.map_nil, List.take, List.drop, Nat.zero_add, Nat.add_zero, Nat.reduceAdd, Nat.reduceMul, Nat.zero_mul, Value.cells, List.toList_toArray, zerosA, List.replicate, List.flatten, List.append_nil]; done)) (by rfl)) rfl rfl rfl ?_)
          refine AO.op (O.call rfl Try.func60 rfl rfl rfl (raw_fn ⟨ty, code, id, tok, opts, pay⟩ hm)) rfl rfl rfl ?_
          refine AO.op (O.lenR rfl rfl) rfl rfl rfl ?_
          refine AO.op (O.leq rfl rfl rfl (by rfl)) rfl rfl rfl ?_
          refine AO.op (O.assign rfl rfl) rfl rfl rfl ?_
          refine AO.nil ?_
          refine AQ.thenN ?_
          refine AW.ret ?_
          have e : decide (ValM ⟨ty, code, id, tok, opts, pay⟩) = decide (((raw ⟨ty, code, id, tok, opts, pay⟩).length : Int) ≤ 4096) := dec_eq (by simp [ValM, hm])
          refine AQ.ret1 rfl rfl ⟨_, List.nil_sublist _, .nil⟩ (⟨congrArg (fun z => AV.val (.bool z)) e.symm, rfl⟩)
theorem renc_fn (m : Msg) : Sp Try.prog 47 [aggM m] [] (Is (.tup [roB (encR m).1, .val (.int .i64 (encR m).2)])) := by
  refine Sp.enter Try.func47 rfl _ Try.ntmps47 rfl (fun w0 R0 => ?_)
  refine AW.seq ?_
  refine AW.region ?_
  refine AO.opB (O.box rfl rfl rfl rfl rfl) rfl rfl rfl ?_
  intro B1
  refine AO.op (O.assign rfl rfl) rfl rfl rfl ?_
  refine AO.op (O.assign rfl rfl) rfl rfl rfl ?_
  refine AO.nil ?_
  refine AQ.thenN ?_
  refine AW.seq ?_
  refine AW.seq ?_
  refine AW.region ?_
  (refine AO.op (O.loadK rfl rfl (by repeat (exact List.Mem.head _)) (by (dsimp only [List.set, List.append, List.cons_append, List.nil_append, roB_cells, roI_cells, roO_cells, splice, ofConst, AV.cells, List.map, List.map_cons, List.map_nil, List.take, List.drop, Nat.zero_add, Nat.add_zero, Nat.reduceAdd, Nat.reduceMul, Nat.zero_mul, Value.cells, List.toList_toArray, zerosA, List.replicate, List.flatten, List.append_nil]; done)) (by rfl)) rfl rfl rfl ?_)
  refine AO.op (O.call rfl Try.func59 rfl rfl rfl (rvalid_fn m)) rfl rfl rfl ?_
  refine AO.op (O.not rfl rfl (by rfl)) rfl rfl rfl ?_
  refine AO.nil ?_
  refine AQ.thenN ?_
  refine AW.split rfl (fun h => ?_) (fun h => ?_) <;> (try simp only [decide_eq_true_eq, decide_eq_false_iff_not, beq_iff_eq, beq_eq_false_iff_ne, bne_iff_ne, bne_eq_false_iff_eq, Bool.not_eq_true', Bool.not_eq_false', Bool.not_eq_true, Bool.not_eq_false, ne_eq, Int.not_lt, Int.not_le, Bool.and_eq_true, Bool.or_eq_true, Bool.or_eq_false_iff, Bool.and_eq_false_imp, strOf_toList, Decidable.not_not] at h)
  · skip
    have e : encR m = ([], 1) := encR_f h
    refine AW.seq ?_
    refine AW.region ?_
    refine AO.op (O.assign rfl rfl) rfl rfl rfl ?_
    refine AO.op (O.assign rfl rfl) rfl rfl rfl ?_
    refine AO.nil ?_
    refine AQ.thenN ?_
    refine AW.ret ?_
    refine AQ.thenR ?_
    refine FnQ.coe (AQ.ret2 rfl rfl rfl ⟨_, List.nil_sublist _, .nil⟩ ⟨rfl, rfl⟩) (Coe.tup (by (repeat (first | exact CoeL.nil | refine CoeL.cons Coe.rfl ?_ | refine CoeL.cons Coe.nil ?_)); done)) (⟨congrArg (fun z : List UInt8 × Int => AV.tup [roB z.1, .val (.int .i64 z.2)]) e.symm, rfl⟩)
  · skip
    have hm : OkM m := h.1
    have e : encR m = (raw m, 0) := encR_t h
    refine AW.skip ?_
    refine AQ.thenN ?_
    refine AW.seq ?_
    refine AW.region ?_
    (refine AO.op (O.loadK rfl rfl (by repeat (exact List.Mem.head _)) (by (dsimp only [List.set, List.append, List.cons_append, List.nil_append, roB_cells, roI_cells, roO_cells, splice, ofConst, AV.cells, List.map, List.map_cons, List.map_nil, List.take, List.drop, Nat.zero_add, Nat.add_zero, Nat.reduceAdd, Nat.reduceMul, Nat.zero_mul, Value.cells, List.toList_toArray, zerosA, List.replicate, List.flatten, List.append_nil]; done)) (by rfl)) rfl rfl rfl ?_)
    refine AO.op (O.call rfl Try.func60 rfl rfl rfl (raw_fn m hm)) rfl rfl rfl ?_
    refine AO.op (O.assign rfl rfl) rfl rfl rfl ?_
    refine AO.op (O.assign rfl rfl) rfl rfl rfl ?_
    refine AO.nil ?_
    refine AQ.thenN ?_
    refine AW.ret ?_
    refine AQ.ret2 rfl rfl rfl ⟨_, List.nil_sublist _, .nil⟩ (⟨congrArg (fun z : List UInt8 × Int => AV.tup [roB z.1, .val (.int .i64 z.2)]) e.symm, rfl⟩)
end Go.Proofs.Ytbmndjjaaeambaa.By

/-
  Layer 15: copies; requests and responses; what is the same.
-/
namespace Go.Proofs.Ytbmndjjaaeambaa.By
open Go.RowKit L A
set_option linter.unusedVariables false
set_option linter.unusedSimpArgs false
attribute [local irreducible] AW AQ AO

theorem clone_fn (l : List UInt8) (hl : l.length ≤ 4294967296) : Sp Try.prog 52 [roB l] [] (Is (roB l)) := by
  refine Sp.enter Try.func52 rfl _ Try.ntmps52 rfl (fun w0 R0 => ?_)
  refine AW.seq ?_
  refine AW.region ?_
  refine AO.op (O.assign rfl rfl) rfl rfl rfl ?_
  refine AO.nil ?_
  refine AQ.thenN ?_
  refine AW.seq ?_
  refine AW.seq ?_
  refine AW.region ?_
  refine AO.op (O.move rfl rfl) rfl rfl rfl ?_
  refine AO.opN (O.eqlNil rfl rfl rfl) rfl rfl rfl ?_
  rintro _ _ ⟨c, rfl, rfl, hnil⟩
  simp only [List.cons_append, List.nil_append]
  refine AO.nil ?_
  refine AQ.thenN ?_
  refine AW.split rfl (fun h => ?_) (fun h => ?_)
  · skip
    obtain rfl : l = [] := List.eq_nil_of_length_eq_zero (hnil (by simp [h]))
    refine AW.seq ?_
    refine AW.region ?_
    refine AO.op (O.assign rfl rfl) rfl rfl rfl ?_
    refine AO.nil ?_
    refine AQ.thenN ?_
    refine AW.ret ?_
    refine AQ.thenR ?_
    refine AQ.g ?_
    refine G.nilRo 2 rfl ?_
    refine AQ.u ?_
    refine AQ.ret1 rfl rfl ⟨_, List.nil_sublist _, .nil⟩ (⟨rfl, rfl⟩)
  · skip
    refine AW.skip ?_
    refine AQ.thenN ?_
    refine AW.seq ?_
    refine AW.region ?_
    refine AO.opRow (O.buildSlice0 rfl) rfl rfl rfl ?_
    intro V hV
    refine AO.op (O.move rfl rfl) rfl rfl rfl ?_
    (refine AO.append' (i := 0) rfl rfl rfl rfl (by rfl) (by rfl) rfl rfl rfl (by exact SrcA.ro TyD.ax (by (simp; done)) (Nat.le_of_ble_eq_true rfl)) (by (simp [AV.cells, AV.one, *]; done)) (by (unfold maxLen; omega)) (by omega) (by (dsimp only [List.set, List.append, List.cons_append, List.nil_append, roB_cells, roI_cells, roO_cells, splice, ofConst, AV.cells, List.map, List.map_cons, List.map_nil, List.take, List.drop, Nat.zero_add, Nat.add_zero, Nat.reduceAdd, Nat.reduceMul, Nat.zero_mul, Value.cells, List.toList_toArray, zerosA, List.replicate, List.flatten, List.append_nil]; done)) (fun _ => by (dsimp only [List.set]; done)) ?_)
    intro V hV
    refine AO.op (O.assign rfl rfl) rfl rfl rfl ?_
    refine AO.nil ?_
    refine AQ.thenN ?_
    refine AW.ret ?_
    refine AQ.g ?_
    refine G.freezeRow 0 rfl [2] (by repeat (first | exact frNil | refine frCons rfl ?_)) ?_
    refine AQ.u ?_
    dsimp only [List.map, List.eraseIdx, List.cons_append, List.nil_append]
    refine AQ.ret1 rfl rfl ⟨_, List.nil_sublist _, .nil⟩ (⟨by simp [roB], rfl⟩)
def reqB (c : Int) : Bool := decide (1 ≤ c ∧ c ≤ 31)
def respB (c : Int) : Bool := decide (64 ≤ c ∧ c ≤ 95 ∨ 128 ≤ c ∧ c ≤ 191)
def SmM (m : Msg) : Prop := m.tok.length ≤ 4294967296 ∧ m.pay.length ≤ 4294967296 ∧ m.opts.length ≤ 1000000 ∧ ∀ o ∈ m.opts, o.val.length ≤ 4294967296
theorem SmM.at {m : Msg} (h : SmM m) {k : Nat} (hk : k < m.opts.length) : (oat m.opts k).val.length ≤ 4294967296 := h.2.2.2 _ (getD_mem _ hk)
set_option maxHeartbeats 4000000 in
theorem copy_fn (m : Msg) (h : SmM m) : Sp Try.prog 39 [aggM m] [] (Is (aggM m)) := by
  have hat := fun k => SmM.at h (k := k)
  obtain ⟨h1, h2, h3, -⟩ := h
  refine Sp.enter Try.func39 rfl _ Try.ntmps39 rfl (fun w0 R0 => ?_)
  refine AW.seq ?_
  refine AW.region ?_
  refine AO.opB (O.box rfl rfl rfl rfl rfl) rfl rfl rfl ?_
  intro B1
  refine AO.opB (O.alloc rfl (by (dsimp only [List.set, List.append, List.cons_append, List.nil_append, roB_cells, roI_cells, roO_cells, splice, ofConst, AV.cells, List.map, List.map_cons, List.map_nil, List.take, List.drop, Nat.zero_add, Nat.add_zero, Nat.reduceAdd, Nat.reduceMul, Nat.zero_mul, Value.cells, List.toList_toArray, zerosA, List.replicate, List.flatten, List.append_nil]; done)) (by rfl)) rfl rfl rfl ?_
  intro B2
  refine AO.nil ?_
  refine AQ.thenN ?_
  refine AW.seq ?_
  refine AW.regionD 7 (by kernel_rfl) (by kernel_rfl) ?_
  simp only [List.take_succ_cons, List.take_zero, List.drop_succ_cons, List.drop_zero]
  refine FA.op (O.fieldAddr rfl rfl) rfl rfl rfl rfl ?_
  refine FA.op (O.load rfl rfl (by repeat (first | exact List.Mem.head _ | refine List.Mem.tail _ ?_)) (by rfl)) rfl rfl rfl rfl ?_
  refine FA.opN (O.appendNil rfl (by rfl) (by rfl) rfl rfl (by exact SrcA.ro TyD.ax (by (simp; done)) (Nat.le_of_ble_eq_true rfl)) (by (simp [AV.cells, AV.one, *]; done)) (by (unfold maxLen; omega)) (by omega)) rfl rfl rfl rfl ?_
  refine FA.op (O.fieldAddr rfl rfl) rfl rfl rfl rfl ?_
  refine FA.op (O.load rfl rfl (by repeat (first | exact List.Mem.head _ | refine List.Mem.tail _ ?_)) (by rfl)) rfl rfl rfl rfl ?_
  refine FA.opN (O.appendNil rfl (by rfl) (by rfl) rfl rfl (by exact SrcA.ro TyD.ax (by (simp; done)) (Nat.le_of_ble_eq_true rfl)) (by (simp [AV.cells, AV.one, *]; done)) (by (unfold maxLen; omega)) (by omega)) rfl rfl rfl rfl ?_
  refine FA.op (O.fieldAddr rfl rfl) rfl rfl rfl rfl ?_
  refine FA.nil ?_
  simp only [chosen, List.nil_append, List.cons_append, List.append_nil]
  rintro _ _ ⟨V3, rfl, hV3, rfl⟩
  rintro _ _ ⟨V4, rfl, hV4, rfl⟩
  simp only [List.cons_append, List.nil_append]
  refine AO.g ?_
  refine G.freezeRow 1 rfl [8] (by repeat (first | exact frNil | refine frCons rfl ?_)) ?_
  refine AO.u ?_
  dsimp only [List.map, List.eraseIdx, List.cons_append, List.nil_append]
  refine AO.g ?_
  refine G.freezeRow 0 rfl [11] (by repeat (first | exact frNil | refine frCons rfl ?_)) ?_
  refine AO.u ?_
  dsimp only [List.map, List.eraseIdx, List.cons_append, List.nil_append]
  (refine AO.store (i := 1) rfl rfl rfl rfl rfl rfl (by rfl) (by rfl) (by rfl) (by rfl) (by (dsimp only [List.set, List.append, List.cons_append, List.nil_append, roB_cells, roI_cells, roO_cells, splice, ofConst, AV.cells, List.map, List.map_cons, List.map_nil, List.take, List.drop, Nat.zero_add, Nat.add_zero, Nat.reduceAdd, Nat.reduceMul, Nat.zero_mul, Value.cells, List.toList_toArray, zerosA, List.replicate, List.flatten, List.append_nil]; done)) ?_)
  refine AO.op (O.fieldAddr rfl rfl) rfl rfl rfl ?_
  (refine AO.store (i := 1) rfl rfl rfl rfl rfl rfl (by rfl) (by rfl) (by rfl) (by rfl) (by (dsimp only [List.set, List.append, List.cons_append, List.nil_append, roB_cells, roI_cells, roO_cells, splice, ofConst, AV.cells, List.map, List.map_cons, List.map_nil, List.take, List.drop, Nat.zero_add, Nat.add_zero, Nat.reduceAdd, Nat.reduceMul, Nat.zero_mul, Value.cells, List.toList_toArray, zerosA, List.replicate, List.flatten, List.append_nil]; done)) ?_)
  refine AO.nil ?_
  refine AQ.thenN ?_
  refine AW.seq ?_
  refine AW.region ?_
  refine AO.op (O.assign rfl rfl) rfl rfl rfl ?_
  refine AO.nil ?_
  refine AQ.thenN ?_
  refine AW.seq ?_
  refine AW.seq ?_
  refine AW.region ?_
  refine AO.op (O.fieldAddr rfl rfl) rfl rfl rfl ?_
  refine AO.op (O.load rfl rfl (by repeat (first | exact List.Mem.head _ | refine List.Mem.tail _ ?_)) (by rfl)) rfl rfl rfl ?_
  refine AO.op (O.lenR rfl rfl) rfl rfl rfl ?_
  refine AO.op (O.move rfl rfl) rfl rfl rfl ?_
  refine AO.nil ?_
  refine AQ.thenN ?_
  refine AW.block ?_
  refine AW.g ?_
  refine G.nilRow 62 2 ?_
  refine AW.u ?_
  refine AW.loopK [(1, _), (2, _), (15, _), (16, _)] (fun nn E H => ∃ (k : Nat) (V : Value), (k ≤ m.opts.length) ∧ (V.oneCell' = true) ∧ nn = m.opts.length - k ∧ E = [(3, .val V), (17, .val (.int .i64 (k : Int)))] ∧ H = [.row V 62 2 k (optsA (m.opts.take k)), .blk B2 29 6 [.val (.int .i64 0), .val (.int .i64 0), .val (.int .i64 0), .val (.slice none 0 0), .val (.slice none 0 0), .val (.slice none 0 0)], .blk B1 29 6 [.val (.int .i64 m.ty), .val (.int .i64 m.code), .val (.int .i64 m.id), roB m.tok, roO m.opts, roB m.pay]]) _ (⟨0, _, by omega, rfl, rfl, rfl, rfl⟩) (by repeat (first | exact envNil | refine envCons rfl ?_)) (by repeat (first | exact envNil | refine envCons rfl ?_)) (by repeat (first | exact subPnil | refine subPcons 0 rfl ?_)) ?_
  rintro nn E H ⟨k, V, h4, hV, rfl, rfl, rfl⟩
  dsimp only [List.cons_append, List.nil_append]
  refine AW.seq ?_
  refine AW.region ?_
  refine AO.op (O.lss rfl rfl rfl (by rfl)) rfl rfl rfl ?_
  refine AO.nil ?_
  refine AQ.thenN ?_
  refine AW.seq ?_
  refine AW.split rfl (fun h5 => ?_) (fun h5 => ?_) <;> (try simp only [decide_eq_true_eq, decide_eq_false_iff_not, beq_iff_eq, beq_eq_false_iff_ne, bne_iff_ne, bne_eq_false_iff_eq, Bool.not_eq_true', Bool.not_eq_false', Bool.not_eq_true, Bool.not_eq_false, ne_eq, Int.not_lt, Int.not_le, Bool.and_eq_true, Bool.or_eq_true, Bool.or_eq_false_iff, Bool.and_eq_false_imp, strOf_toList, Decidable.not_not] at h5)
  · skip
    have hk : k < m.opts.length := by omega
    have hv := hat k hk
    have hsc : optsA (m.opts.take (k + 1)) = optsA (m.opts.take k) ++ [.val (.int .i64 (oat m.opts k).num), roB (oat m.opts k).val] := by rw [take_snoc Opt.none hk, optsA_snoc]
    refine AW.skip ?_
    refine AQ.thenN ?_
    refine AW.seq ?_
    refine AW.block ?_
    refine AW.seq ?_
    refine AW.region ?_
    refine AO.op (O.idxR rfl rfl rfl ⟨(by omega), (by omega)⟩) rfl rfl rfl ?_
    refine AO.op (O.loadRK rfl rfl (by exact getO (by omega) (by omega)) (by rfl)) rfl rfl rfl ?_
    refine AO.opB (O.alloc rfl (by (dsimp only [List.set, List.append, List.cons_append, List.nil_append, roB_cells, roI_cells, roO_cells, splice, ofConst, AV.cells, List.map, List.map_cons, List.map_nil, List.take, List.drop, Nat.zero_add, Nat.add_zero, Nat.reduceAdd, Nat.reduceMul, Nat.zero_mul, Value.cells, List.toList_toArray, zerosA, List.replicate, List.flatten, List.append_nil]; done)) (by rfl)) rfl rfl rfl ?_
    intro B5
    (refine AO.store (i := 0) rfl rfl rfl rfl rfl rfl (by rfl) (by rfl) (by rfl) (by rfl) (by (dsimp only [List.set, List.append, List.cons_append, List.nil_append, roB_cells, roI_cells, roO_cells, splice, ofConst, AV.cells, List.map, List.map_cons, List.map_nil, List.take, List.drop, Nat.zero_add, Nat.add_zero, Nat.reduceAdd, Nat.reduceMul, Nat.zero_mul, Value.cells, List.toList_toArray, zerosA, List.replicate, List.flatten, List.append_nil]; done)) ?_)
    refine AO.nil ?_
    refine AQ.thenN ?_
    refine AW.regionM [(0, false), (1, false), (2, false), (3, false), (4, false), (5, true), (6, false), (7, false), (8, true), (9, true)] (by kernel_rfl) (by kernel_rfl) (by exact (by exact splitRow 3 1 rfl rfl splitNil)) ?_
    dsimp only [List.eraseIdx]
    refine AM.op rfl (O.move rfl rfl) rfl rfl rfl ?_
    refine AM.op rfl (O.fieldAddr rfl rfl) rfl rfl rfl ?_
    refine AM.op rfl (O.load rfl rfl (by repeat (exact List.Mem.head _)) (by rfl)) rfl rfl rfl ?_
    refine AM.op rfl (O.fieldAddr rfl rfl) rfl rfl rfl ?_
    refine AM.op rfl (O.load rfl rfl (by repeat (exact List.Mem.head _)) (by rfl)) rfl rfl rfl ?_
    refine AM.main _ rfl (fun w0 R0 => ?_)
    refine AO.opRow (O.appendNil rfl (by rfl) (by rfl) rfl rfl (by exact SrcA.ro TyD.ax (by (simp; done)) (Nat.le_of_ble_eq_true rfl)) (by (simp [AV.cells, AV.one, *]; done)) (by (unfold maxLen; omega)) (by omega)) rfl rfl rfl ?_
    intro V6 hV6
    refine AO.g ?_
    refine G.freezeRow 0 rfl [26] (by repeat (first | exact frNil | refine frCons rfl ?_)) ?_
    refine AO.u ?_
    dsimp only [List.map, List.eraseIdx, List.cons_append, List.nil_append]
    refine AM.ok ?_
    dsimp only [putE]
    refine AM.op rfl (O.build rfl rfl rfl (by rfl)) rfl rfl rfl ?_
    refine AM.op rfl (OpW.frz (O.buildSlice rfl rfl rfl (by rfl) (by rfl) (by rfl) (by rfl)) (by (unfold maxLen; omega))) rfl rfl rfl ?_
    refine AM.main _ rfl (fun w0 R0 => ?_)
    (refine AO.append' (i := 0) rfl rfl rfl rfl (by rfl) (by rfl) rfl rfl rfl (by exact SrcA.ro TyD.ax (by rfl) (Nat.le_of_ble_eq_true rfl)) (by rfl) (by (unfold maxLen; omega)) (by omega) (by (dsimp only [List.set, List.append, List.cons_append, List.nil_append, roB_cells, roI_cells, roO_cells, splice, ofConst, AV.cells, List.map, List.map_cons, List.map_nil, List.take, List.drop, Nat.zero_add, Nat.add_zero, Nat.reduceAdd, Nat.reduceMul, Nat.zero_mul, Value.cells, List.toList_toArray, zerosA, List.replicate, List.flatten, List.append_nil]; done)) (fun _ => by (dsimp only [List.set]; done)) ?_)
    intro V7 hV7
    refine AM.ok ?_
    dsimp only [putE]
    refine AM.main _ rfl (fun w0 R0 => ?_)
    refine AO.op (O.assign rfl rfl) rfl rfl rfl ?_
    refine AM.ok ?_
    dsimp only [putE]
    refine AM.nil ?_
    dsimp only [List.cons_append, List.nil_append]
    refine AQ.blockN ?_
    refine AQ.thenN ?_
    refine AW.region ?_
    refine AO.op (O.add rfl rfl rfl (by exact wI64 (by omega))) rfl rfl rfl ?_
    refine AO.op (O.move rfl rfl) rfl rfl rfl ?_
    refine AO.nil ?_
    refine AQ.loopKN _ _ _ (by omega) (⟨k + 1, _, by omega, ‹_›, rfl, rfl, by rw [hsc]⟩) (by repeat (first | exact envNil | refine envCons rfl ?_)) (by repeat (first | exact envNil | refine envCons rfl ?_)) (by repeat (first | exact subPnil | refine subPcons 0 rfl ?_ | refine subPcons 1 rfl ?_))
  · skip
    obtain rfl : k = m.opts.length := by omega
    rw [List.take_length]
    refine AW.g ?_
    refine G.freezeRow 0 rfl [3] (by repeat (first | exact frNil | refine frCons rfl ?_)) ?_
    refine AW.u ?_
    try dsimp only [List.map, List.eraseIdx, List.cons_append, List.nil_append]
    refine AW.exit ?_
    refine AQ.thenX ?_
    refine AQ.loopX ?_
    refine AQ.blockX rfl ?_
    refine AQ.thenN ?_
    refine AW.seq ?_
    refine AW.region ?_
    refine AO.op (O.move rfl rfl) rfl rfl rfl ?_
    refine AO.op (O.fieldAddr rfl rfl) rfl rfl rfl ?_
    (refine AO.store (i := 1) rfl rfl rfl rfl rfl rfl (by rfl) (by rfl) (by rfl) (by rfl) (by (dsimp only [List.set, List.append, List.cons_append, List.nil_append, roB_cells, roI_cells, roO_cells, splice, ofConst, AV.cells, List.map, List.map_cons, List.map_nil, List.take, List.drop, Nat.zero_add, Nat.add_zero, Nat.reduceAdd, Nat.reduceMul, Nat.zero_mul, Value.cells, List.toList_toArray, zerosA, List.replicate, List.flatten, List.append_nil]; done)) ?_)
    refine AO.nil ?_
    refine AQ.thenN ?_
    refine AW.seq ?_
    refine AW.region ?_
    (refine AO.op (O.loadK rfl rfl (by repeat (first | exact List.Mem.head _ | refine List.Mem.tail _ ?_)) (by (dsimp only [List.set, List.append, List.cons_append, List.nil_append, roB_cells, roI_cells, roO_cells, splice, ofConst, AV.cells, List.map, List.map_cons, List.map_nil, List.take, List.drop, Nat.zero_add, Nat.add_zero, Nat.reduceAdd, Nat.reduceMul, Nat.zero_mul, Value.cells, List.toList_toArray, zerosA, List.replicate, List.flatten, List.append_nil]; done)) (by rfl)) rfl rfl rfl ?_)
    (refine AO.store (i := 0) rfl rfl rfl rfl rfl rfl (by rfl) (by rfl) (by rfl) (by rfl) (by (dsimp only [List.set, List.append, List.cons_append, List.nil_append, roB_cells, roI_cells, roO_cells, splice, ofConst, AV.cells, List.map, List.map_cons, List.map_nil, List.take, List.drop, Nat.zero_add, Nat.add_zero, Nat.reduceAdd, Nat.reduceMul, Nat.zero_mul, Value.cells, List.toList_toArray, zerosA, List.replicate, List.flatten, List.append_nil]; done)) ?_)
    refine AO.nil ?_
    refine AQ.thenN ?_
    refine AW.ret ?_
    refine AQ.retCell rfl rfl (by repeat (exact List.Mem.head _)) (by rfl) rfl ⟨_, List.nil_sublist _, .nil⟩ (⟨rfl, rfl⟩)
end Go.Proofs.Ytbmndjjaaeambaa.By

/-
  Layer 15: what is the same; responses, both.
-/
namespace Go.Proofs.Ytbmndjjaaeambaa.By
open Go.RowKit L A
set_option linter.unusedVariables false
set_option linter.unusedSimpArgs false
attribute [local irreducible] AW AQ AO
theorem opt_ext : ∀ {x y : Opt}, x.num = y.num → x.val = y.val → x = y
  | ⟨_, _⟩, ⟨_, _⟩, rfl, rfl => rfl
theorem opts_eq {a b : List Opt} (h : a.length = b.length) (h2 : ∀ k, k < a.length → oat a k = oat b k) : a = b := by
  refine List.ext_getElem h fun k h3 h4 => ?_
  have := h2 k h3
  simpa [oat, h3, h4] using this
set_option maxHeartbeats 4000000 in
theorem same_fn (a b : Msg) (h0 : a.opts.length ≤ 1000000) : Sp Try.prog 22 [aggM a, aggM b] [] (Is (.val (.bool (decide (a = b))))) := by
  refine Sp.enter Try.func22 rfl _ Try.ntmps22 rfl (fun w0 R0 => ?_)
  refine AW.seq ?_
  refine AW.region ?_
  refine AO.opB (O.box rfl rfl rfl rfl rfl) rfl rfl rfl ?_
  intro B1
  refine AO.opB (O.box rfl rfl rfl rfl rfl) rfl rfl rfl ?_
  intro B2
  refine AO.op (O.assign rfl rfl) rfl rfl rfl ?_
  refine AO.nil ?_
  refine AQ.thenN ?_
  refine AW.seq ?_
  refine AW.seq ?_
  refine AW.region ?_
  refine AO.op (O.fieldAddr rfl rfl) rfl rfl rfl ?_
  refine AO.op (O.load rfl rfl (by repeat (first | exact List.Mem.head _ | refine List.Mem.tail _ ?_)) (by rfl)) rfl rfl rfl ?_
  refine AO.op (O.fieldAddr rfl rfl) rfl rfl rfl ?_
  refine AO.op (O.load rfl rfl (by repeat (exact List.Mem.head _)) (by rfl)) rfl rfl rfl ?_
  refine AO.op (O.neq rfl rfl rfl (by rfl)) rfl rfl rfl ?_
  refine AO.op (O.move rfl rfl) rfl rfl rfl ?_
  refine AO.opG rfl rfl rfl (fun hp => O.fieldAddr rfl rfl) ?_
  refine AO.opG rfl rfl rfl (fun hp => OpW.force 13 rfl (by exact hp) (O.load rfl rfl (by repeat (first | exact List.Mem.head _ | refine List.Mem.tail _ ?_)) (by rfl))) ?_
  refine AO.opG rfl rfl rfl (fun hp => O.fieldAddr rfl rfl) ?_
  refine AO.opG rfl rfl rfl (fun hp => OpW.force 15 rfl (by exact hp) (O.load rfl rfl (by repeat (exact List.Mem.head _)) (by rfl))) ?_
  refine AO.opG rfl rfl rfl (fun hp => OpW.force 14 rfl (by exact hp) (OpW.force 16 rfl (by exact hp) (O.neq rfl rfl rfl (by rfl)))) ?_
  refine AO.op (O.pickOr rfl rfl rfl rfl (fun h => by exact congrArg (fun b => !b) h)) rfl rfl rfl ?_
  refine AO.op (O.move rfl rfl) rfl rfl rfl ?_
  refine AO.opG rfl rfl rfl (fun hp => O.fieldAddr rfl rfl) ?_
  refine AO.opG rfl rfl rfl (fun hp => OpW.force 20 rfl (by exact hp) (O.load rfl rfl (by repeat (first | exact List.Mem.head _ | refine List.Mem.tail _ ?_)) (by rfl))) ?_
  refine AO.opG rfl rfl rfl (fun hp => O.fieldAddr rfl rfl) ?_
  refine AO.opG rfl rfl rfl (fun hp => OpW.force 22 rfl (by exact hp) (O.load rfl rfl (by repeat (exact List.Mem.head _)) (by rfl))) ?_
  refine AO.opG rfl rfl rfl (fun hp => OpW.force 21 rfl (by exact hp) (OpW.force 23 rfl (by exact hp) (O.neq rfl rfl rfl (by rfl)))) ?_
  refine AO.op (O.pickOr rfl rfl rfl rfl (fun h => by exact congrArg (fun b => !b) h)) rfl rfl rfl ?_
  refine AO.op (O.move rfl rfl) rfl rfl rfl ?_
  refine AO.opG rfl rfl rfl (fun hp => O.fieldAddr rfl rfl) ?_
  refine AO.opG rfl rfl rfl (fun hp => OpW.force 27 rfl (by exact hp) (O.load rfl rfl (by repeat (first | exact List.Mem.head _ | refine List.Mem.tail _ ?_)) (by rfl))) ?_
  refine AO.opG rfl rfl rfl (fun hp => OpW.force 28 rfl (by exact hp) (O.convS rfl rfl (by rfl))) ?_
  refine AO.opG rfl rfl rfl (fun hp => O.fieldAddr rfl rfl) ?_
  refine AO.opG rfl rfl rfl (fun hp => OpW.force 30 rfl (by exact hp) (O.load rfl rfl (by repeat (exact List.Mem.head _)) (by rfl))) ?_
  refine AO.opG rfl rfl rfl (fun hp => OpW.force 31 rfl (by exact hp) (O.convS rfl rfl (by rfl))) ?_
  refine AO.opG rfl rfl rfl (fun hp => OpW.force 29 rfl (by exact hp) (OpW.force 32 rfl (by exact hp) (O.neqS rfl rfl rfl (by rfl)))) ?_
  refine AO.op (O.pickOr rfl rfl rfl rfl (fun h => by exact congrArg (fun b => !b) h)) rfl rfl rfl ?_
  refine AO.op (O.move rfl rfl) rfl rfl rfl ?_
  refine AO.opG rfl rfl rfl (fun hp => O.fieldAddr rfl rfl) ?_
  refine AO.opG rfl rfl rfl (fun hp => OpW.force 36 rfl (by exact hp) (O.load rfl rfl (by repeat (first | exact List.Mem.head _ | refine List.Mem.tail _ ?_)) (by rfl))) ?_
  refine AO.opG rfl rfl rfl (fun hp => OpW.force 37 rfl (by exact hp) (O.convS rfl rfl (by rfl))) ?_
  refine AO.opG rfl rfl rfl (fun hp => O.fieldAddr rfl rfl) ?_
  refine AO.opG rfl rfl rfl (fun hp => OpW.force 39 rfl (by exact hp) (O.load rfl rfl (by repeat (exact List.Mem.head _)) (by rfl))) ?_
  refine AO.opG rfl rfl rfl (fun hp => OpW.force 40 rfl (by exact hp) (O.convS rfl rfl (by rfl))) ?_
  refine AO.opG rfl rfl rfl (fun hp => OpW.force 38 rfl (by exact hp) (OpW.force 41 rfl (by exact hp) (O.neqS rfl rfl rfl (by rfl)))) ?_
  refine AO.op (O.pickOr rfl rfl rfl rfl (fun h => by exact congrArg (fun b => !b) h)) rfl rfl rfl ?_
  refine AO.op (O.move rfl rfl) rfl rfl rfl ?_
  refine AO.opG rfl rfl rfl (fun hp => O.fieldAddr rfl rfl) ?_
  refine AO.opG rfl rfl rfl (fun hp => OpW.force 45 rfl (by exact hp) (O.load rfl rfl (by repeat (first | exact List.Mem.head _ | refine List.Mem.tail _ ?_)) (by rfl))) ?_
  refine AO.opG rfl rfl rfl (fun hp => OpW.force 46 rfl (by exact hp) (O.lenR rfl rfl)) ?_
  refine AO.opG rfl rfl rfl (fun hp => O.fieldAddr rfl rfl) ?_
  refine AO.opG rfl rfl rfl (fun hp => OpW.force 48 rfl (by exact hp) (O.load rfl rfl (by repeat (exact List.Mem.head _)) (by rfl))) ?_
  refine AO.opG rfl rfl rfl (fun hp => OpW.force 49 rfl (by exact hp) (O.lenR rfl rfl)) ?_
  refine AO.opG rfl rfl rfl (fun hp => OpW.force 47 rfl (by exact hp) (OpW.force 50 rfl (by exact hp) (O.neq rfl rfl rfl (by rfl)))) ?_
  refine AO.op (O.pickOr rfl rfl rfl rfl (fun h => by exact congrArg (fun b => !b) h)) rfl rfl rfl ?_
  refine AO.nil ?_
  refine AQ.thenN ?_
  refine AW.split rfl (fun h => ?_) (fun h => ?_) <;> (try simp only [decide_eq_true_eq, decide_eq_false_iff_not, beq_iff_eq, beq_eq_false_iff_ne, bne_iff_ne, bne_eq_false_iff_eq, Bool.not_eq_true', Bool.not_eq_false', Bool.not_eq_true, Bool.not_eq_false, ne_eq, Int.not_lt, Int.not_le, Bool.and_eq_true, Bool.or_eq_true, Bool.or_eq_false_iff, Bool.and_eq_false_imp, strOf_toList, Decidable.not_not] at h)
  · skip
    have e : decide (a = b) = false := decide_eq_false fun e => by subst e; simp at h
    refine AW.seq ?_
    refine AW.region ?_
    refine AO.op (O.assign rfl rfl) rfl rfl rfl ?_
    refine AO.nil ?_
    refine AQ.thenN ?_
    refine AW.ret ?_
    refine AQ.thenR ?_
    refine AQ.ret1 rfl rfl ⟨_, List.nil_sublist _, .nil⟩ (⟨congrArg (fun z => AV.val (.bool z)) e.symm, rfl⟩)
  · skip
    have hl : a.opts.length = b.opts.length := by omega
    refine AW.skip ?_
    refine AQ.thenN ?_
    refine AW.seq ?_
    refine AW.seq ?_
    refine AW.region ?_
    refine AO.op (O.fieldAddr rfl rfl) rfl rfl rfl ?_
    refine AO.op (O.load rfl rfl (by repeat (first | exact List.Mem.head _ | refine List.Mem.tail _ ?_)) (by rfl)) rfl rfl rfl ?_
    refine AO.op (O.lenR rfl rfl) rfl rfl rfl ?_
    refine AO.op (O.move rfl rfl) rfl rfl rfl ?_
    refine AO.nil ?_
    refine AQ.thenN ?_
    refine AW.block ?_
    refine AW.loopK [(3, _), (54, _), (55, _)] (fun nn E H => ∃ (k : Nat), (k ≤ a.opts.length) ∧ ((∀ i, i < k → oat a.opts i = oat b.opts i)) ∧ nn = a.opts.length - k ∧ E = [(56, .val (.int .i64 (k : Int)))] ∧ H = [.blk B2 29 6 [.val (.int .i64 b.ty), .val (.int .i64 b.code), .val (.int .i64 b.id), roB b.tok, roO b.opts, roB b.pay], .blk B1 29 6 [.val (.int .i64 a.ty), .val (.int .i64 a.code), .val (.int .i64 a.id), roB a.tok, roO a.opts, roB a.pay]]) _ (⟨0, by omega, fun i hi => absurd hi (by omega), rfl, rfl, rfl⟩) (by repeat (first | exact envNil | refine envCons rfl ?_)) (by repeat (first | exact envNil | refine envCons rfl ?_)) (by repeat (first | exact subPnil | refine subPcons 0 rfl ?_)) ?_
    rintro nn E H ⟨k, h4, ha, rfl, rfl, rfl⟩
    dsimp only [List.cons_append, List.nil_append]
    refine AW.seq ?_
    refine AW.region ?_
    refine AO.op (O.lss rfl rfl rfl (by rfl)) rfl rfl rfl ?_
    refine AO.nil ?_
    refine AQ.thenN ?_
    refine AW.seq ?_
    refine AW.split rfl (fun h5 => ?_) (fun h5 => ?_) <;> (try simp only [decide_eq_true_eq, decide_eq_false_iff_not, beq_iff_eq, beq_eq_false_iff_ne, bne_iff_ne, bne_eq_false_iff_eq, Bool.not_eq_true', Bool.not_eq_false', Bool.not_eq_true, Bool.not_eq_false, ne_eq, Int.not_lt, Int.not_le, Bool.and_eq_true, Bool.or_eq_true, Bool.or_eq_false_iff, Bool.and_eq_false_imp, strOf_toList, Decidable.not_not] at h5)
    · skip
      have hk : k < a.opts.length := by omega
      have hk2 : k < b.opts.length := by omega
      refine AW.skip ?_
      refine AQ.thenN ?_
      refine AW.seq ?_
      refine AW.block ?_
      refine AW.seq ?_
      refine AW.region ?_
      refine AO.op (O.move rfl rfl) rfl rfl rfl ?_
      refine AO.op (O.idxR rfl rfl rfl ⟨(by omega), (by omega)⟩) rfl rfl rfl ?_
      refine AO.op (O.loadRK rfl rfl (by exact getO (by omega) (by omega)) (by rfl)) rfl rfl rfl ?_
      refine AO.opB (O.alloc rfl (by (dsimp only [List.set, List.append, List.cons_append, List.nil_append, roB_cells, roI_cells, roO_cells, splice, ofConst, AV.cells, List.map, List.map_cons, List.map_nil, List.take, List.drop, Nat.zero_add, Nat.add_zero, Nat.reduceAdd, Nat.reduceMul, Nat.zero_mul, Value.cells, List.toList_toArray, zerosA, List.replicate, List.flatten, List.append_nil]; done)) (by rfl)) rfl rfl rfl ?_
      intro B3
      refine AO.op (O.assign rfl rfl) rfl rfl rfl ?_
      (refine AO.store (i := 0) rfl rfl rfl rfl rfl rfl (by rfl) (by rfl) (by rfl) (by rfl) (by (dsimp only [List.set, List.append, List.cons_append, List.nil_append, roB_cells, roI_cells, roO_cells, splice, ofConst, AV.cells, List.map, List.map_cons, List.map_nil, List.take, List.drop, Nat.zero_add, Nat.add_zero, Nat.reduceAdd, Nat.reduceMul, Nat.zero_mul, Value.cells, List.toList_toArray, zerosA, List.replicate, List.flatten, List.append_nil]; done)) ?_)
      refine AO.nil ?_
      refine AQ.thenN ?_
      refine AW.seq ?_
      refine AW.regionD 22 (by kernel_rfl) (by kernel_rfl) ?_
      simp only [List.take_succ_cons, List.take_zero, List.drop_succ_cons, List.drop_zero]
      refine FA.op (O.fieldAddr rfl rfl) rfl rfl rfl rfl ?_
      refine FA.op (O.load rfl rfl (by repeat (exact List.Mem.head _)) (by rfl)) rfl rfl rfl rfl ?_
      refine FA.op (O.fieldAddr rfl rfl) rfl rfl rfl rfl ?_
      refine FA.op (O.load rfl rfl (by repeat (first | exact List.Mem.head _ | refine List.Mem.tail _ ?_)) (by rfl)) rfl rfl rfl rfl ?_
      refine FA.op (O.move rfl rfl) rfl rfl rfl rfl ?_
      refine FA.op (O.idxR rfl rfl rfl ⟨(by omega), (by omega)⟩) rfl rfl rfl rfl ?_
      refine FA.op (O.fieldAddrR rfl rfl) rfl rfl rfl rfl ?_
      refine FA.op (O.loadR rfl rfl (by exact getOn (by omega) (by omega))) rfl rfl rfl rfl ?_
      refine FA.op (O.neq rfl rfl rfl (by rfl)) rfl rfl rfl rfl ?_
      refine FA.op (O.move rfl rfl) rfl rfl rfl rfl ?_
      refine FA.opG rfl rfl rfl rfl (fun hp => O.fieldAddr rfl rfl) ?_
      refine FA.opG rfl rfl rfl rfl (fun hp => OpW.force 71 rfl (by exact hp) (O.load rfl rfl (by repeat (exact List.Mem.head _)) (by rfl))) ?_
      refine FA.opG rfl rfl rfl rfl (fun hp => OpW.force 72 rfl (by exact hp) (O.convS rfl rfl (by rfl))) ?_
      refine FA.opG rfl rfl rfl rfl (fun hp => O.fieldAddr rfl rfl) ?_
      refine FA.opG rfl rfl rfl rfl (fun hp => OpW.force 74 rfl (by exact hp) (O.load rfl rfl (by repeat (first | exact List.Mem.head _ | refine List.Mem.tail _ ?_)) (by rfl))) ?_
      refine FA.opG rfl rfl rfl rfl (fun hp => O.move rfl rfl) ?_
      refine FA.opG rfl rfl rfl rfl (fun hp => OpW.force 75 rfl (by exact hp) (OpW.force 76 rfl (by exact hp) (O.idxR rfl rfl rfl ⟨(by omega), (by omega)⟩))) ?_
      refine FA.opG rfl rfl rfl rfl (fun hp => OpW.force 77 rfl (by exact hp) (O.fieldAddrR rfl rfl)) ?_
      refine FA.opG rfl rfl rfl rfl (fun hp => OpW.force 78 rfl (by exact hp) (O.loadR rfl rfl (by exact getOv (by omega) (by omega)))) ?_
      refine FA.opG rfl rfl rfl rfl (fun hp => OpW.force 79 rfl (by exact hp) (O.convS rfl rfl (by rfl))) ?_
      refine FA.opG rfl rfl rfl rfl (fun hp => OpW.force 73 rfl (by exact hp) (OpW.force 80 rfl (by exact hp) (O.neqS rfl rfl rfl (by rfl)))) ?_
      refine FA.op (O.pickOr rfl rfl rfl rfl (fun h => by exact congrArg (fun b => !b) h)) rfl rfl rfl rfl ?_
      refine FA.nil ?_
      simp only [chosen, List.nil_append, List.cons_append, List.append_nil]
      refine AO.nil ?_
      refine AQ.thenN ?_
      refine AW.split rfl (fun h6 => ?_) (fun h6 => ?_) <;> (try simp only [decide_eq_true_eq, decide_eq_false_iff_not, beq_iff_eq, beq_eq_false_iff_ne, bne_iff_ne, bne_eq_false_iff_eq, Bool.not_eq_true', Bool.not_eq_false', Bool.not_eq_true, Bool.not_eq_false, ne_eq, Int.not_lt, Int.not_le, Bool.and_eq_true, Bool.or_eq_true, Bool.or_eq_false_iff, Bool.and_eq_false_imp, strOf_toList, Decidable.not_not] at h6)
      · skip
        have e : decide (a = b) = false := decide_eq_false fun e => by subst e; simp at h6
        refine AW.seq ?_
        refine AW.region ?_
        refine AO.op (O.assign rfl rfl) rfl rfl rfl ?_
        refine AO.nil ?_
        refine AQ.thenN ?_
        refine AW.ret ?_
        refine AQ.blockR ?_
        refine AQ.thenR ?_
        refine AQ.loopR ?_
        refine AQ.blockR ?_
        refine AQ.thenR ?_
        refine AQ.ret1 rfl rfl ⟨_, List.nil_sublist _, .nil⟩ (⟨congrArg (fun z => AV.val (.bool z)) e.symm, rfl⟩)
      · skip
        have ha2 : ∀ i, i < k + 1 → oat a.opts i = oat b.opts i := by
          intro i hi
          rcases Nat.lt_or_ge i k with h7 | h7
          · exact ha i h7
          · obtain rfl : i = k := by omega
            exact opt_ext h6.1 h6.2
        refine AW.skip ?_
        refine AQ.blockN ?_
        refine AQ.thenN ?_
        refine AW.region ?_
        refine AO.op (O.add rfl rfl rfl (by exact wI64 (by omega))) rfl rfl rfl ?_
        refine AO.op (O.move rfl rfl) rfl rfl rfl ?_
        refine AO.nil ?_
        refine AQ.loopKN _ _ _ (by omega) (⟨k + 1, by omega, ha2, rfl, rfl, rfl⟩) (by repeat (first | exact envNil | refine envCons rfl ?_)) (by repeat (first | exact envNil | refine envCons rfl ?_)) (by repeat (first | exact subPnil | refine subPcons 1 rfl ?_))
    · skip
      have e : decide (a = b) = true := decide_eq_true (by
        have := opts_eq hl fun i hi => ha i (by omega)
        obtain ⟨⟨⟨⟨⟨e1, e2⟩, e3⟩, e4⟩, e5⟩, -⟩ := h
        obtain ⟨_, _, _, _, _, _⟩ := a
        obtain ⟨_, _, _, _, _, _⟩ := b
        simp_all)
      refine AW.exit ?_
      refine AQ.thenX ?_
      refine AQ.loopX ?_
      refine AQ.blockX rfl ?_
      refine AQ.thenN ?_
      refine AW.seq ?_
      refine AW.region ?_
      refine AO.op (O.assign rfl rfl) rfl rfl rfl ?_
      refine AO.nil ?_
      refine AQ.thenN ?_
      refine AW.ret ?_
      refine AQ.ret1 rfl rfl ⟨_, List.nil_sublist _, .nil⟩ (⟨congrArg (fun z => AV.val (.bool z)) e.symm, rfl⟩)

def replyM (m : Msg) (code : Int) (os : List Opt) (pay : List UInt8) : Msg := ⟨if m.ty = 0 then 2 else 1, code, if m.ty = 0 then m.id else 0, m.tok, os, pay⟩
def replyR (m : Msg) (code : Int) (os : List Opt) (pay : List UInt8) : Msg × Int :=
  if ValM m ∧ reqB m.code = true then (if respB code = true ∧ ValM (replyM m code os pay) then (replyM m code os pay, 0) else (Msg.none, 4)) else (Msg.none, 1)
abbrev resM (r : Msg × Int) : AV := .tup [aggM r.1, .val (.int .i64 r.2)]
theorem retM {q : AV} {r : Msg × Int} {c : Msg} {e : Int} (h : r = (c, e)) (hq : q = .tup [aggM c, .val (.int .i64 e)]) : Is (resM r) q [] := by subst h; exact ⟨hq, rfl⟩
end Go.Proofs.Ytbmndjjaaeambaa.By

/-
  Layer 15, plainly: what is read from bytes.
-/
namespace Go.Proofs.Ytbmndjjaaeambaa.By
open Go.RowKit L A
set_option linter.unusedVariables false
set_option linter.unusedSimpArgs false

open Classical in
/-- What is read: a message whose encoding the bytes are. -/
noncomputable def decS (b : List UInt8) : Msg × Int :=
  if 4096 < b.length then (Msg.none, 8) else if b.length < 4 then (Msg.none, 2) else if h : ∃ m, OkM m ∧ raw m = b then (Classical.choose h, 0) else (Msg.none, 4)
theorem decS_no {b : List UInt8} (h1 : b.length ≤ 4096) (h2 : 4 ≤ b.length) (h : ∀ m, OkM m → raw m ≠ b) : decS b = (Msg.none, 4) := by
  unfold decS
  rw [if_neg (by omega), if_neg (by omega), dif_neg fun ⟨m, h3, h4⟩ => h m h3 h4]
theorem decS_yes {b : List UInt8} {m : Msg} (h1 : b.length ≤ 4096) (h2 : 4 ≤ b.length) (hm : OkM m) (hr : raw m = b) (h : ∀ m0, OkM m0 → raw m0 = b → m0 = m) : decS b = (m, 0) := by
  unfold decS
  have hx : ∃ m, OkM m ∧ raw m = b := ⟨m, hm, hr⟩
  rw [if_neg (by omega), if_neg (by omega), dif_pos hx, h _ (Classical.choose_spec hx).1 (Classical.choose_spec hx).2]

/-! ### The parser -/
def takeP (r : List UInt8) (bad : Bool) (n : Int) : List UInt8 × List UInt8 × Bool := if (r.length : Int) < n then (List.replicate (min n 4).toNat 0, r, true) else (r.take n.toNat, r.drop n.toNat, bad)
def numP (r : List UInt8) (bad : Bool) (n : Int) : Int × List UInt8 × Bool :=
  if n = 13 then (((bt (takeP r bad 1).1 0).toNat : Int) + 13, (takeP r bad 1).2)
  else if n = 14 then (((bt (takeP r bad 2).1 0).toNat : Int) * 256 + ((bt (takeP r bad 2).1 1).toNat : Int) + 269, (takeP r bad 2).2)
  else (n, r, if n = 15 then true else bad)
theorem takeP_app (v t : List UInt8) (bad : Bool) {n : Int} (h : n = v.length) : takeP (v ++ t) bad n = (v, t, bad) := by
  subst h
  unfold takeP
  rw [if_neg (by simp; omega)]
  simp
theorem takeP_len (r : List UInt8) (bad : Bool) (n : Int) (h : 0 ≤ n) : (takeP r bad n).2.1.length ≤ r.length ∧ ((takeP r bad n).1.length : Int) ≤ n ∧ (n ≤ 4 → ((takeP r bad n).1.length : Int) = n) := by
  unfold takeP
  split <;> simp <;> omega
theorem numP_ext {x : Int} (h : 0 ≤ x ∧ x ≤ 65804) (t : List UInt8) (bad : Bool) : numP ((ext x).2 ++ t) bad (ext x).1 = (x, t, bad) := by
  unfold ext
  split
  · unfold numP; rw [if_neg (by simp; omega), if_neg (by simp; omega), if_neg (by simp; omega)]; rfl
  · split
    · unfold numP
      rw [if_pos rfl, takeP_app [u8 (x - 13)] t bad (n := 1) rfl]
      have := u8_small (x := x - 13) (by omega)
      simp [bt] at this ⊢
      omega
    · unfold numP
      rw [if_neg (by simp), if_pos rfl, takeP_app [u8 ((x - 269) / 256), u8 (x - 269)] t bad (n := 2) rfl]
      have h1 := u8_small (x := (x - 269) / 256) (by omega)
      have h2 := u8_toNat (x - 269)
      simp [bt] at h1 h2 ⊢
      omega
theorem numP_le (r : List UInt8) (bad : Bool) {n : Int} (h : 0 ≤ n ∧ n ≤ 15) : 0 ≤ (numP r bad n).1 ∧ (numP r bad n).1 ≤ 65804 ∧ (numP r bad n).2.1.length ≤ r.length := by
  have h1 := takeP_len r bad 1 (by omega)
  have h2 := takeP_len r bad 2 (by omega)
  unfold numP
  split
  · have := u8_lt (bt (takeP r bad 1).1 0)
    refine ⟨?_, ?_, h1.1⟩ <;> simp only <;> omega
  · split
    · have := u8_lt (bt (takeP r bad 2).1 0)
      have := u8_lt (bt (takeP r bad 2).1 1)
      refine ⟨?_, ?_, h2.1⟩ <;> simp only <;> omega
    · refine ⟨?_, ?_, Nat.le_refl _⟩ <;> simp only <;> omega

/-! ### The rest of an encoding -/
def tailM (m : Msg) : List UInt8 := if m.pay = [] then [] else 255 :: m.pay
def restM (m : Msg) (k : Nat) : List UInt8 := rawO (lastO 0 (m.opts.take k)) (m.opts.drop k) ++ tailM m
theorem rest_zero (m : Msg) : raw m = headM m ++ (m.tok ++ restM m 0) := by simp [raw, restM, tailM, lastO]
theorem rest_end {m : Msg} {k : Nat} (h : m.opts.length ≤ k) : restM m k = tailM m := by simp [restM, List.drop_eq_nil_of_le h, rawO]
theorem rest_step {m : Msg} {k : Nat} (h : k < m.opts.length) : restM m k = u8 (16 * (ext ((oat m.opts k).num - lastO 0 (m.opts.take k))).1 + (ext ((oat m.opts k).val.length : Int)).1) :: ((ext ((oat m.opts k).num - lastO 0 (m.opts.take k))).2 ++ ((ext ((oat m.opts k).val.length : Int)).2 ++ ((oat m.opts k).val ++ restM m (k + 1)))) := by
  rw [restM, drop_cons Opt.none h, rawO, hdr, restM, take_snoc Opt.none h, lastO_snoc]
  simp

/-- How far bytes are read, whatever valid message they encode. -/
def Fits (b : List UInt8) (opts : List Opt) (last : Int) (r : List UInt8) (bad : Bool) : Prop :=
  ∀ m, OkM m → raw m = b → bad = false ∧ opts.length ≤ m.opts.length ∧ r = restM m opts.length ∧ last = lastO 0 opts ∧ opts = m.opts.take opts.length
theorem Fits.more {b : List UInt8} {opts : List Opt} {last : Int} {r : List UInt8} {bad : Bool} (h : Fits b opts last r bad) {m : Msg} (hm : OkM m) (hr : raw m = b) (h1 : r ≠ []) (h2 : bt r 0 ≠ 255) : opts.length < m.opts.length := by
  obtain ⟨-, h3, h4, -, -⟩ := h m hm hr
  rcases Nat.lt_or_ge opts.length m.opts.length with h5 | h5
  · exact h5
  · rw [rest_end h5, tailM] at h4
    split at h4
    · exact absurd h4 h1
    · subst h4; exact absurd rfl h2
theorem Fits.ends {b : List UInt8} {opts : List Opt} {last : Int} {r : List UInt8} {bad : Bool} (h : Fits b opts last r bad) {m : Msg} (hm : OkM m) (hr : raw m = b) (h1 : bad = true ∨ r = [] ∨ bt r 0 = 255) : bad = false ∧ opts = m.opts ∧ r = tailM m := by
  obtain ⟨h0, h3, h4, h6, h7⟩ := h m hm hr
  rcases Nat.lt_or_ge opts.length m.opts.length with h5 | h5
  · rw [rest_step h5] at h4
    have h8 := AscO_at hm.2.2.1 h5
    have h9 := lastO_le (AscO_take hm.2.2.1 opts.length) (by omega)
    have e1 := ext_le ((oat m.opts opts.length).num - lastO 0 (m.opts.take opts.length)) (by omega)
    have e2 := ext_le ((oat m.opts opts.length).val.length : Int) (by omega)
    rcases h1 with h1 | h1 | h1
    · rw [h0] at h1; cases h1
    · rw [h1] at h4; cases h4
    · have e3 := u8_small (x := 16 * (ext ((oat m.opts opts.length).num - lastO 0 (m.opts.take opts.length))).1 + (ext ((oat m.opts opts.length).val.length : Int)).1) (by omega)
      rw [h4] at h1
      have h1' : u8 (16 * (ext ((oat m.opts opts.length).num - lastO 0 (m.opts.take opts.length))).1 + (ext ((oat m.opts opts.length).val.length : Int)).1) = 255 := h1
      rw [h1'] at e3
      have : ((255 : UInt8).toNat : Int) = 255 := rfl
      omega
  · refine ⟨h0, ?_, ?_⟩
    · rw [List.take_of_length_le h5] at h7; exact h7
    · rw [rest_end h5] at h4; exact h4
/-- A further option of a valid message. -/
theorem Fits.parts {b : List UInt8} {opts : List Opt} {last : Int} {r : List UInt8} {bad : Bool} (h : Fits b opts last r bad) {m : Msg} (hm : OkM m) (hr : raw m = b) (h1 : r ≠ []) (h2 : bt r 0 ≠ 255) :
    ∃ o d n, opts.length < m.opts.length ∧ o = oat m.opts opts.length ∧ d = o.num - last ∧ n = (o.val.length : Int) ∧ 0 ≤ d ∧ d ≤ 65535 ∧ n ≤ 1034 ∧ ((bt r 0).toNat : Int) = 16 * (ext d).1 + (ext n).1 ∧ r.drop 1 = (ext d).2 ++ ((ext n).2 ++ (o.val ++ restM m (opts.length + 1))) := by
  have h5 := h.more hm hr h1 h2
  obtain ⟨h0, h3, h4, h6, h7⟩ := h m hm hr
  rw [rest_step h5, ← h7, ← h6] at h4
  have h8 := AscO_at hm.2.2.1 h5
  have h9 := lastO_le (AscO_take hm.2.2.1 opts.length) (by omega)
  rw [← h7, ← h6] at h8 h9
  have e1 := ext_le ((oat m.opts opts.length).num - last) (by omega)
  have e2 := ext_le ((oat m.opts opts.length).val.length : Int) (by omega)
  refine ⟨_, _, _, h5, rfl, rfl, rfl, by omega, by omega, by omega, ?_, by rw [h4]; rfl⟩
  rw [h4]
  exact u8_small (by omega)
theorem Fits.step {b : List UInt8} {opts : List Opt} {last : Int} {r r1 r2 r3 : List UInt8} {b1 b2 b3 : Bool} {v1 v2 : Int} {x : List UInt8} (h : Fits b opts last r false) (h1 : r ≠ []) (h2 : bt r 0 ≠ 255)
    (e1 : numP (r.drop 1) false (((bt r 0).toNat : Int) / 16) = (v1, r1, b1)) (e2 : numP r1 b1 (((bt r 0).toNat : Int) % 16) = (v2, r2, b2)) (e3 : takeP r2 b2 v2 = (x, r3, b3)) : Fits b (opts ++ [⟨last + v1, x⟩]) (last + v1) r3 b3 := fun m hm hr => by
  obtain ⟨o, d, n, h5, h6, h7, h8, h9, h10, h11, h12, h13⟩ := h.parts hm hr h1 h2
  obtain ⟨-, -, -, h16, h17⟩ := h m hm hr
  have q1 := ext_le d h9
  have q2 := ext_le n (by omega)
  rw [h12, show (16 * (ext d).1 + (ext n).1) / 16 = (ext d).1 by omega, h13, numP_ext (by omega)] at e1
  simp only [Prod.mk.injEq] at e1
  obtain ⟨e11, e12, e13⟩ := e1
  subst e12; subst e13
  rw [h12, show (16 * (ext d).1 + (ext n).1) % 16 = (ext n).1 by omega, numP_ext (by omega)] at e2
  simp only [Prod.mk.injEq] at e2
  obtain ⟨e21, e22, e23⟩ := e2
  subst e22; subst e23
  rw [takeP_app _ _ _ (e21.symm.trans h8)] at e3
  simp only [Prod.mk.injEq] at e3
  obtain ⟨e31, e32, e33⟩ := e3
  subst e31; subst e32; subst e33
  have hl : last + v1 = o.num := by omega
  refine ⟨rfl, by simp; omega, by simp, by rw [lastO_snoc], ?_⟩
  rw [List.length_append, List.length_singleton, take_snoc Opt.none h5, ← h17, hl, h6]
/-- The start. -/
theorem Fits.start {b : List UInt8} : (∀ m, OkM m → raw m = b → ((bt b 0).toNat : Int) = 64 + 16 * m.ty + m.tok.length ∧ ((bt b 1).toNat : Int) = m.code ∧ ((bt b 2).toNat : Int) = m.id / 256 ∧ ((bt b 3).toNat : Int) = m.id % 256 ∧ b.drop 4 = m.tok ++ restM m 0) := fun m hm hr => by
  have h1 := hm.1
  have h2 := hm.2.1
  subst hr
  rw [rest_zero]
  refine ⟨u8_small (by omega), u8_small (by omega), u8_small (by omega), u8_toNat _, rfl⟩
theorem Fits.first {b x r : List UInt8} {bad : Bool} (e : takeP (b.drop 4) false (((bt b 0).toNat : Int) % 16) = (x, r, bad)) : Fits b [] 0 r bad ∧ ∀ m, OkM m → raw m = b → x = m.tok := by
  have key : ∀ m, OkM m → raw m = b → x = m.tok ∧ r = restM m 0 ∧ bad = false := fun m hm hr => by
    obtain ⟨h1, -, -, -, h5⟩ := Fits.start m hm hr
    have h2 := hm.2.1
    rw [h1, h5, takeP_app _ _ _ (by omega)] at e
    cases e
    exact ⟨rfl, rfl, rfl⟩
  exact ⟨fun m hm hr => ⟨(key m hm hr).2.2, Nat.zero_le _, (key m hm hr).2.1, rfl, rfl⟩, fun m hm hr => (key m hm hr).1⟩
/-- The end: every valid message with this encoding is the one that is read. -/
theorem Fits.all {b x r : List UInt8} {opts : List Opt} {last : Int} {bad : Bool} (h : Fits b opts last r bad) (hx : ∀ m, OkM m → raw m = b → x = m.tok) (h1 : bad = true ∨ r = [] ∨ bt r 0 = 255) {pay : List UInt8} (hp : pay = r.drop 1) {ty code id : Int}
    (hty : ty = ((bt b 0).toNat : Int) / 16 % 4) (hcode : code = ((bt b 1).toNat : Int)) (hid : id = ((bt b 2).toNat : Int) * 256 + ((bt b 3).toNat : Int)) : ∀ m, OkM m → raw m = b → bad = false ∧ m = ⟨ty, code, id, x, opts, pay⟩ := fun m hm hr => by
  obtain ⟨g1, g2, g3, g4, -⟩ := Fits.start m hm hr
  obtain ⟨h3, h4, h5⟩ := h.ends hm hr h1
  have q1 := hm.1
  have q2 := hm.2.1
  have hpay : pay = m.pay := by
    rw [hp, h5, tailM]
    split
    · rename_i e; rw [e]; rfl
    · rfl
  refine ⟨h3, ?_⟩
  obtain ⟨ty', code', id', tok', opts', pay'⟩ := m
  simp only at g1 g2 g3 g4 q1 q2 h4 hpay
  have := hx _ hm hr
  simp only at this
  subst this; subst h4; subst hpay
  rw [Msg.mk.injEq]
  refine ⟨by omega, by omega, by omega, rfl, rfl, rfl⟩
end Go.Proofs.Ytbmndjjaaeambaa.By

/-
  Layer 15, plainly: no two valid messages have the same encoding.
-/
namespace Go.Proofs.Ytbmndjjaaeambaa.By
open Go.RowKit L A
set_option linter.unusedVariables false
set_option linter.unusedSimpArgs false

theorem Fits.own {m : Msg} (hm : OkM m) : ∀ k, k ≤ m.opts.length → Fits (raw m) (m.opts.take k) (lastO 0 (m.opts.take k)) (restM m k) false
  | 0, _ => by
    have h1 := hm.1
    have h2 := hm.2.1
    have e0 : ((bt (raw m) 0).toNat : Int) = 64 + 16 * m.ty + m.tok.length := (Fits.start m hm rfl).1
    have e : takeP ((raw m).drop 4) false (((bt (raw m) 0).toNat : Int) % 16) = (m.tok, restM m 0, false) := by
      rw [(Fits.start m hm rfl).2.2.2.2, takeP_app _ _ _ (by omega)]
    exact (Fits.first e).1
  | k + 1, h => by
    have ih := Fits.own hm k (by omega)
    have h5 : k < m.opts.length := by omega
    have h8 := AscO_at hm.2.2.1 h5
    have h9 := lastO_le (AscO_take hm.2.2.1 k) (by omega)
    have hr := rest_step (m := m) h5
    generalize hd : (oat m.opts k).num - lastO 0 (m.opts.take k) = d at hr
    generalize hn : ((oat m.opts k).val.length : Int) = n at hr
    have e1 := ext_le d (by omega)
    have e2 := ext_le n (by omega)
    have hb : bt (restM m k) 0 = u8 (16 * (ext d).1 + (ext n).1) := by rw [hr]; rfl
    have hu := u8_small (x := 16 * (ext d).1 + (ext n).1) (by omega)
    have s := ih.step (v1 := d) (r1 := (ext n).2 ++ ((oat m.opts k).val ++ restM m (k + 1))) (b1 := false) (v2 := n) (r2 := (oat m.opts k).val ++ restM m (k + 1)) (b2 := false) (x := (oat m.opts k).val) (r3 := restM m (k + 1)) (b3 := false)
      (by rw [hr]; simp) (fun e => by
        rw [hb] at e
        rw [e] at hu
        have : ((255 : UInt8).toNat : Int) = 255 := rfl
        omega)
      (by rw [hb, hu, show (16 * (ext d).1 + (ext n).1) / 16 = (ext d).1 by omega, hr]; exact numP_ext (by omega) _ _)
      (by rw [hb, hu, show (16 * (ext d).1 + (ext n).1) % 16 = (ext n).1 by omega]; exact numP_ext (by omega) _ _)
      (takeP_app _ _ _ hn.symm)
    rw [show lastO 0 (m.opts.take k) + d = (oat m.opts k).num by omega] at s
    rw [take_snoc Opt.none h5, lastO_snoc]
    exact s
theorem raw_inj {m m0 : Msg} (hm : OkM m) (hm0 : OkM m0) (h : raw m0 = raw m) : m0 = m := by
  have hf := Fits.own hm m.opts.length (Nat.le_refl _)
  rw [List.take_length, rest_end (Nat.le_refl _)] at hf
  have e : takeP ((raw m).drop 4) false (((bt (raw m) 0).toNat : Int) % 16) = (m.tok, restM m 0, false) := by
    have h1 := hm.1
    have h2 := hm.2.1
    have e0 : ((bt (raw m) 0).toNat : Int) = 64 + 16 * m.ty + m.tok.length := (Fits.start m hm rfl).1
    rw [(Fits.start m hm rfl).2.2.2.2, takeP_app _ _ _ (by omega)]
  have hend : false = true ∨ tailM m = [] ∨ bt (tailM m) 0 = 255 := by
    unfold tailM
    split
    · exact .inr (.inl rfl)
    · exact .inr (.inr rfl)
  have hall := hf.all (Fits.first e).2 hend rfl rfl rfl rfl
  exact (hall m0 hm0 h).2.trans (hall m hm rfl).2.symm
theorem decS_raw {m : Msg} (hv : ValM m) : decS (raw m) = (m, 0) := by
  have h2 : 4 ≤ (raw m).length := by simp [raw, headM]
  exact decS_yes (by have := hv.2; omega) h2 hv.1 rfl fun m0 h0 hr => raw_inj hv.1 h0 hr
theorem decS_ok {b : List UInt8} (h : (decS b).2 = 0) : ValM (decS b).1 ∧ raw (decS b).1 = b := by
  unfold decS at h ⊢
  split at h
  · cases h
  · split at h
    · cases h
    · split at h
      · rename_i h1 h2 h3
        rw [if_neg h1, if_neg h2, dif_pos h3]
        have := Classical.choose_spec h3
        exact ⟨⟨this.1, by rw [this.2]; omega⟩, this.2⟩
      · cases h
end Go.Proofs.Ytbmndjjaaeambaa.By

/-
  A row that lies in a cell of an own block becomes read-only.
-/
namespace Go.Proofs.Ytbmndjjaaeambaa.A
open Go.RowKit L
set_option linter.unusedVariables false
set_option linter.unusedSimpArgs false
section
variable {Γ : Cx} {P : Program} {Q : Exit → Act → World → Prop} {E : Env} {H : List HE}
theorem G.freezeK {X : Act → World → Prop} (i : Nat) {v : Value} {T sz n : Nat} {xs : List AV} (hi : H[i]? = some (.row v T sz n xs))
    (k : ∀ R a W, RelS Γ R (H.eraseIdx i) W → RelA Γ.N R W E a → RelV R W (.ro false n xs) v → X a W) : G Γ E H X := fun R a W hs ha => by
  have hmem := List.mem_of_getElem? hi
  obtain ⟨hlt, he⟩ := List.getElem?_eq_some_iff.1 hi
  have hsub : (H.eraseIdx i).Sublist H := List.eraseIdx_sublist _ _
  have hdis : ∀ f ∈ H.eraseIdx i, ∀ b, f.foot b → ¬ (HE.row v T sz n xs).foot b := fun f hf b hb hb' => by
    obtain ⟨j, hj, rfl⟩ := List.getElem_of_mem hf
    rw [List.getElem_eraseIdx] at hb
    rw [List.length_eraseIdx, if_pos hlt] at hj
    split at hb
    · exact (List.pairwise_iff_getElem.1 hs.disj j i (by omega) hlt (by omega)) b hb (by rw [he]; exact hb')
    · exact (List.pairwise_iff_getElem.1 hs.disj i (j + 1) hlt (by omega) (by omega)) b (by rw [he]; exact hb') hb
  have hRS : ∀ b, R b → R b ∨ (HE.row v T sz n xs).foot b := fun b h => .inl h
  obtain ⟨us, hown, hr⟩ := hs.ok _ hmem
  refine k (fun b => R b ∨ (HE.row v T sz n xs).foot b) a W ⟨hs.mods, ?_, fun b hb => .inl (hs.rsub b hb), ?_, fun e he => HE.ok_mono hRS (fun _ _ => rfl) (Nat.le_refl _) (fun _ _ => rfl) (hs.ok e (hsub.subset he)), ?_, hs.disj.sublist hsub⟩ (ha.mono hRS (fun _ _ => rfl)) ?_
  · rintro b (hb | hb)
    · exact hs.rlt b hb
    · exact HE.ok_lt (hs.ok _ hmem) hb
  · rintro b (hb | hb)
    · exact hs.rnew b hb
    · exact .inr (hs.own _ hmem b hb).1
  · intro e he b hb
    refine ⟨(hs.own e (hsub.subset he) b hb).1, ?_⟩
    rintro (h | h)
    · exact (hs.own e (hsub.subset he) b hb).2 h
    · exact hdis e he b hb h
  · have hr' := hr.mono hRS (W' := W) (fun _ _ => rfl)
    rcases hown.2 with ⟨rfl, rfl⟩ | ⟨g, cap, cur, rfl, hbg, hg, h1, h2, h3, h4⟩
    · have : xs = [] := List.eq_nil_of_length_eq_zero (by rw [← hr.1, hown.1]; simp)
      subst this
      exact .emp _ _ _ (fun h => by cases h) (Nat.zero_le _)
    · refine .ro false n xs g 0 cap (fun j => us.getD j undef) (.inr rfl) (fun j hj => ?_) (fun j hj => hr'.2 j hj) h1 h2 (fun h => by cases h)
      have hj' : j < us.length := by rw [hr.1]; exact hj
      have := hown.cells (g := g) rfl j us[j] (by simp [hj'])
      rw [addr_add] at this
      rw [this]
      simp [List.getD, hj']
theorem G.freezeCell {X : Act → World → Prop} (i j c : Nat) {v : Value} {T sz n : Nat} {xs : List AV} {b T' room : Nat} {ys : List AV} (hi : H[i]? = some (.row v T sz n xs)) (hj : (H.eraseIdx i)[j]? = some (.blk b T' room ys)) (hc : ys[c]? = some (.val v))
    (k : G Γ E ((H.eraseIdx i).set j (.blk b T' room (ys.set c (.ro false n xs)))) X) : G Γ E H X := G.freezeK i hi fun R a W hs ha hv => by
  obtain ⟨us, cs, h1, h2, h3, h4⟩ := hs.ok _ (List.mem_of_getElem? hj)
  obtain ⟨u, hu1, hu2⟩ := h4.get hc
  have hu3 := hu2.val_inv
  subst hu3
  refine k R a W (hs.setSame hj (fun b hb => hb) ⟨us, cs, h1, h2, by rw [List.length_set]; exact h3, ?_⟩) ha
  have h5 := h4.set c hv
  rwa [show us.set c u = us from List.ext_getElem? fun q => by
    rcases Nat.decEq c q with h | h
    · rw [List.getElem?_set_ne h]
    · subst h; rw [List.getElem?_set_self (List.getElem?_eq_some_iff.1 hu1).1, hu1]] at h5
theorem G.coeCell {X : Act → World → Prop} (j c : Nat) {b T' room : Nat} {ys : List AV} {u w : AV} (hj : H[j]? = some (.blk b T' room ys)) (hc : ys[c]? = some u) (hw : Coe u w)
    (k : G Γ E (H.set j (.blk b T' room (ys.set c w))) X) : G Γ E H X := fun R a W hs ha => by
  obtain ⟨us, cs, h1, h2, h3, h4⟩ := hs.ok _ (List.mem_of_getElem? hj)
  obtain ⟨z, hu1, hu2⟩ := h4.get hc
  refine k R a W (hs.setSame hj (fun b hb => hb) ⟨us, cs, h1, h2, by rw [List.length_set]; exact h3, ?_⟩) ha
  have h5 := h4.set c (hw R W _ hu2)
  rwa [show us.set c z = us from List.ext_getElem? fun q => by
    rcases Nat.decEq c q with h | h
    · rw [List.getElem?_set_ne h]
    · subst h; rw [List.getElem?_set_self (List.getElem?_eq_some_iff.1 hu1).1, hu1]] at h5
end
end Go.Proofs.Ytbmndjjaaeambaa.A

/-
  A region that draws its order, in stages.
-/
namespace Go.Proofs.Ytbmndjjaaeambaa.A
open Go.RowKit L
set_option linter.unusedVariables false
set_option linter.unusedSimpArgs false

section
variable {P : Program} {ops : Array Oper} {N : Nat}

/-- The state on the way. -/
structure MJ (P : Program) (Γ : Cx) (ops : Array Oper) (Hs : List HE) (K : Env → List HE → Prop) (ord : List (Nat × Bool)) (late : List Nat) (listed : Array Bool) (A : Act) (W : World) (pre ms : List (Nat × Bool)) (Pd : List Nat) (E : Env) (H : List HE) (R : Nat → Prop) : Prop where
  size : listed.size = ops.size
  closed : Closed ops listed
  part : ∀ i, i < ops.size → (listed.getD i false = false ↔ i ∈ Pd ∨ i ∈ ms.map Prod.fst ∨ i ∈ late)
  ord : ord = pre ++ ms
  pdp : ∀ i ∈ Pd, (i, false) ∈ pre
  am : AM P Γ.N ops Hs K ms E H
  pend : ∀ i ∈ Pd, ∃ o d v, ops[i]? = some o ∧ o.dst = some d ∧ d < Γ.N ∧ look E d = some v ∧ OpF P Γ.N ops o (rst E (o.looksAt ops)) Hs (Is v)
  rels : RelS Γ R (H ++ Hs) W
  defers : A.defers = []
  tmps : A.tmps.size = Γ.N
  act : ∀ t v, look E t = some v → (∀ i ∈ Pd, ∀ o, ops[i]? = some o → o.dst ≠ some t) → RelV R W v (A.eval (.tmp t))

variable {Γ : Cx} {Hs : List HE} {K : Env → List HE → Prop} {ord : List (Nat × Bool)} {late : List Nat}

/-- What reads is pending as soon as it may run. -/
theorem MJ.absorb {listed : Array Bool} {A : Act} {W : World} {R : Nat → Prop} (hok : ordPairs ops (ancs ops.toList []) ord = true) : ∀ (ms pre : List (Nat × Bool)) (Pd : List Nat) (E : Env) (H : List HE), MJ P Γ ops Hs K ord late listed A W pre ms Pd E H R →
    ∃ pre' ms' Pd' E', MJ P Γ ops Hs K ord late listed A W pre' ms' Pd' E' H R ∧ (ms' = [] ∨ ∃ m r, ms' = (m, true) :: r)
  | [], pre, Pd, E, H, h => ⟨pre, [], Pd, E, h, .inl rfl⟩
  | (m, true) :: r, pre, Pd, E, H, h => ⟨pre, _, Pd, E, h, .inr ⟨m, r, rfl⟩⟩
  | (j, false) :: r, pre, Pd, E, H, h => by
    obtain ⟨o, d, v, ho, hd, hN, hop, ham⟩ := h.am
    have hord := h.ord
    have hq := ordPairs_app (pre := pre) (r := (j, false) :: r) (by rw [← hord]; exact hok)
    have hself : d ∉ o.looksAt ops := by
      have := hq.1
      rw [ordPairs] at this
      simp only [Bool.and_eq_true, ho, hd, Bool.false_or] at this
      simpa using this.1.1
    have hp : ∀ i ∈ Pd, ∀ oi, ops[i]? = some oi → d ∉ oi.looksAt ops ∧ oi.dst ≠ some d := fun i hi oi hoi => by
      have := pairOk (hq.2 _ (h.pdp i hi) (j, false) (List.mem_cons_self ..)) hoi ho
      obtain ⟨d', h1, h2, h3⟩ := this.flt rfl
      rw [hd] at h1
      cases h1
      exact ⟨h2, h3⟩
    refine MJ.absorb hok r (pre ++ [(j, false)]) (j :: Pd) ((d, v) :: E) H ⟨h.size, h.closed, fun i hi => ?_, by rw [hord]; simp, fun i hi => ?_, ham, fun i hi => ?_, h.rels, h.defers, h.tmps, fun t x ht hpd => ?_⟩
    · rw [h.part i hi]
      simp only [List.map_cons, List.mem_cons]
      constructor
      · rintro (h | (h | h) | h)
        · exact .inl (.inr h)
        · exact .inl (.inl h)
        · exact .inr (.inl h)
        · exact .inr (.inr h)
      · rintro ((h | h) | h | h)
        · exact .inr (.inl (.inl h))
        · exact .inl h
        · exact .inr (.inl (.inr h))
        · exact .inr (.inr h)
    · rcases List.mem_cons.1 hi with rfl | hi
      · simp
      · exact List.mem_append_left _ (h.pdp i hi)
    · rcases List.mem_cons.1 hi with rfl | hi
      · exact ⟨o, d, v, ho, hd, hN, look_here, by rw [rst_skip hself]; exact hop⟩
      · obtain ⟨oi, di, vi, h1, h2, h3, h4, h5⟩ := h.pend i hi
        obtain ⟨h6, h7⟩ := hp i hi oi h1
        refine ⟨oi, di, vi, h1, h2, h3, ?_, by rw [rst_skip h6]; exact h5⟩
        rw [look_skip (fun e => h7 (by rw [h2, e]))]; exact h4
    · have hne : d ≠ t := fun e => hpd j (List.mem_cons_self ..) o ho (by rw [hd, e])
      rw [look_skip hne] at ht
      exact h.act t x ht fun i hi => hpd i (List.mem_cons_of_mem _ hi)

theorem MJ.reads {listed : Array Bool} {A : Act} {W : World} {R : Nat → Prop} {pre ms : List (Nat × Bool)} {Pd : List Nat} {E : Env} {H : List HE} (hok : ordPairs ops (ancs ops.toList []) ord = true) (h : MJ P Γ ops Hs K ord late listed A W pre ms Pd E H R)
    {i : Nat} {b : Bool} {o : Oper} (ho : ops[i]? = some o) (hdeps : ∀ e ∈ o.after, Region.binds .any e = true → listed.getD e.on false = true) (hi : (i, b) ∈ pre ∧ i ∈ Pd ∧ b = false ∨ ∃ r, ms = (i, b) :: r) : RelA Γ.N R W (rst E (o.looksAt ops)) A := by
  refine ⟨h.defers, h.tmps, fun t v ht => ?_⟩
  obtain ⟨htl, ht⟩ := look_rst ht
  refine h.act t v ht fun k hk ok hok' hdk => ?_
  have hkp := h.pdp k hk
  have hkf : listed.getD k false = false := (h.part k (Array.getElem?_eq_some_iff.1 hok').1).2 (.inl hk)
  have direct : ordPair ops (ancs ops.toList []) k false i b = true → False := fun hp => by
    obtain ⟨e, he, hb, hon⟩ := (pairOk hp hok' ho).reads t hdk htl
    have := hdeps e he hb
    rw [hon, hkf] at this; cases this
  rcases hi with ⟨hip, hiP, rfl⟩ | ⟨r, hms⟩
  · -- both ahead
    obtain ⟨p1, p2, hp12⟩ := List.append_of_mem hkp
    have hord := h.ord
    rw [hp12, List.append_assoc] at hord
    rw [hp12] at hip
    rcases List.mem_append.1 hip with hip | hip
    · -- i ahead of k
      have hq := ordPairs_app (pre := p1) (by rw [← hord]; exact hok)
      have := pairOk (hq.2 _ hip (k, false) (List.mem_cons_self ..)) ho hok'
      obtain ⟨d', h1, h2, -⟩ := this.flt rfl
      rw [hdk] at h1; cases h1
      exact h2 htl
    · rcases List.mem_cons.1 hip with he | hip
      · cases he
        -- itself
        have hq := (ordPairs_app (pre := p1) (by rw [← hord]; exact hok)).1
        rw [List.cons_append, ordPairs] at hq
        simp only [Bool.and_eq_true] at hq
        obtain rfl : o = ok := by rw [ho] at hok'; exact Option.some.inj hok'
        have := hq.1.1
        rw [ho] at this
        simp only [hdk, Bool.false_or] at this
        simp at this
        exact this htl
      · rw [show p1 ++ ((k, false) :: p2 ++ ms) = (p1 ++ [(k, false)]) ++ (p2 ++ ms) by simp] at hord
        have hq := ordPairs_app (pre := p1 ++ [(k, false)]) (by rw [← hord]; exact hok)
        exact direct (hq.2 (k, false) (by simp) (i, false) (List.mem_append_left _ hip))
  · have hq := ordPairs_app (pre := pre) (r := ms) (by rw [← h.ord]; exact hok)
    exact direct (hq.2 _ hkp (i, b) (by rw [hms]; exact List.mem_cons_self ..))

/-- One stage. -/
theorem MJ.stage {Q : Exit → Act → World → Prop} (hback : ∀ i o, ops[i]? = some o → ∀ e ∈ o.after, Region.binds .any e = true → e.on < i) (hpairs : ordPairs ops (ancs ops.toList []) ord = true) (hlt : ∀ q ∈ ord, q.1 < ops.size)
    (hlate : ∀ j ∈ late, ∀ q ∈ ord, q.1 ∈ (ancs ops.toList []).getD j [])
    (hfin : ∀ (listed : Array Bool) (A : Act) (W : World) (E : Env) (H : List HE) (R : Nat → Prop), listed.size = ops.size → Closed ops listed → (∀ i, i < ops.size → (listed.getD i false = false ↔ i ∈ late)) → RelS Γ R (H ++ Hs) W → RelA Γ.N R W E A → K E H → wpAny P .any ops Q (listed.toList.count false) listed A W) :
    ∀ (fuel : Nat) (listed : Array Bool) (A : Act) (W : World) (pre ms : List (Nat × Bool)) (Pd : List Nat) (E : Env) (H : List HE) (R : Nat → Prop), fuel = listed.toList.count false →
      MJ P Γ ops Hs K ord late listed A W pre ms Pd E H R → (ms = [] ∨ ∃ m r, ms = (m, true) :: r) → wpAny P .any ops Q fuel listed A W := by
  intro fuel
  induction fuel with
  | zero =>
    intro listed A W pre ms Pd E H R hc hI hhd
    have hlist : ∀ i, i < ops.size → listed.getD i false = true := by
      intro i hi
      have hi' : i < listed.size := by rw [hI.size]; exact hi
      cases hb : listed.getD i false with
      | true => rfl
      | false =>
        exfalso
        have hm : false ∈ listed.toList := by
          rw [← hb]; simp [Array.getD, hi']
        have := List.count_pos_iff.2 hm
        omega
    have hms : ms = [] := by
      rcases hhd with h | ⟨m, r, h⟩
      · exact h
      · have h1 := hlt (m, true) (by rw [hI.ord, h]; simp)
        have := (hI.part m h1).2 (.inr (.inl (by rw [h]; simp)))
        rw [hlist m h1] at this; cases this
    have hPd : Pd = [] := by
      rw [List.eq_nil_iff_forall_not_mem]
      intro i hi
      have h1 := hlt (i, false) (by rw [hI.ord]; exact List.mem_append_left _ (hI.pdp i hi))
      have := (hI.part i h1).2 (.inl hi)
      rw [hlist i h1] at this; cases this
    subst hms
    subst hPd
    rw [hc]
    exact hfin listed A W E H R hI.size hI.closed (fun i hi => by rw [hI.part i hi]; simp) hI.rels ⟨hI.defers, hI.tmps, fun t v ht => hI.act t v ht fun i hi => (by cases hi)⟩ hI.am
  | succ fuel ih =>
    intro listed A W pre ms Pd E H R hc hI hhd
    by_cases hemp : ms = [] ∧ Pd = []
    · obtain ⟨rfl, rfl⟩ := hemp
      rw [hc]
      exact hfin listed A W E H R hI.size hI.closed (fun i hi => by rw [hI.part i hi]; simp) hI.rels ⟨hI.defers, hI.tmps, fun t v ht => hI.act t v ht fun i hi => (by cases hi)⟩ hI.am
    have hun : ∃ q ∈ ord, listed.getD q.1 false = false := by
      rcases hhd with h | ⟨m, r, h⟩
      · cases Pd with
        | nil => exact absurd ⟨h, rfl⟩ hemp
        | cons p Pd =>
          have h1 : (p, false) ∈ ord := by rw [hI.ord]; exact List.mem_append_left _ (hI.pdp p (List.mem_cons_self ..))
          exact ⟨_, h1, (hI.part p (hlt _ h1)).2 (.inl (List.mem_cons_self ..))⟩
      · have h1 : (m, true) ∈ ord := by rw [hI.ord, h]; simp
        exact ⟨_, h1, (hI.part m (hlt _ h1)).2 (.inr (.inl (by rw [h]; simp)))⟩
    have hne : ∃ i, i ∈ Region.ready .any ops listed := by
      have hex : ∃ i, i < ops.size ∧ listed.getD i false = false := by
        have hpos : 0 < listed.toList.count false := by omega
        obtain ⟨i, hi, hf⟩ := List.getElem_of_mem (List.count_pos_iff.1 hpos)
        have hi' : i < listed.size := by simpa using hi
        exact ⟨i, by rw [← hI.size]; exact hi', by simpa [Array.getD, hi'] using hf⟩
      obtain ⟨i, ⟨hi, hf⟩, hmin⟩ : ∃ i, (i < ops.size ∧ listed.getD i false = false) ∧ ∀ j, j < i → ¬ (j < ops.size ∧ listed.getD j false = false) := by
        obtain ⟨i, h⟩ := hex
        exact least ⟨i, h⟩
      have hio : ops[i]? = some ops[i] := by simp [hi]
      refine ⟨i, mem_ready.2 ⟨by rw [getD_tf (by rw [hI.size]; exact hi)]; exact hf, _, hio, fun e he hb => ?_⟩⟩
      have := hback i _ hio e he hb
      cases hb2 : listed.getD e.on false with
      | true => rfl
      | false => exact absurd ⟨by omega, hb2⟩ (hmin e.on this)
    refine ⟨fun e => (by obtain ⟨i, hi⟩ := hne; rw [e] at hi; cases hi), fun i hi => ?_⟩
    obtain ⟨h0, o, ho, hdeps⟩ := mem_ready.1 hi
    have hio : i < ops.size := (Array.getElem?_eq_some_iff.1 ho).1
    have hf : listed.getD i false = false := by rw [← getD_tf (by rw [hI.size]; exact hio)]; exact h0
    have hil : i < listed.size := by rw [hI.size]; exact hio
    have hanc : ∀ j, j ∈ (ancs ops.toList []).getD i [] → listed.getD j false = true := fun j hj => anc_listed hI.closed hback i o ho hdeps j hj
    have hcl := closed_set hI.closed ho hil hdeps
    have hcnt : fuel = (listed.setIfInBounds i true).toList.count false := by
      have hcs := count_set_true listed.toList i (by simpa using hil) (by simpa [Array.getD, hil] using hf)
      simp only [Array.toList_setIfInBounds]
      omega
    have hgd : ∀ k, k ≠ i → (listed.setIfInBounds i true).getD k false = listed.getD k false := fun k hk => getD_set_ne false (Ne.symm hk)
    have hgi : (listed.setIfInBounds i true).getD i false = true := by simp [Array.getD, hil]
    have hsz : (listed.setIfInBounds i true).size = ops.size := by simpa using hI.size
    have hnl : i ∉ late := fun h => by
      obtain ⟨q, hq, hqf⟩ := hun
      have := hanc q.1 (hlate i h q hq)
      rw [hqf] at this; cases this
    rcases (hI.part i hio).1 hf with hPd | hms | hlt'
    · -- one that reads
      obtain ⟨o', d, v, ho', hd, hN, hlk, hop⟩ := hI.pend i hPd
      obtain rfl : o = o' := by rw [ho] at ho'; exact Option.some.inj ho'
      have hA := hI.reads hpairs ho hdeps (b := false) (.inl ⟨hI.pdp i hPd, hPd, rfl⟩)
      have hs := hop R A W hI.rels.rlt (fun e he => hI.rels.ok e (List.mem_append_right _ he)) (fun e he b hb => (hI.rels.own e (List.mem_append_right _ he) b hb).2) hA
      have hnext : ∀ u W', (∃ v' Hn R', Is v v' Hn ∧ Post1 R W v' Hn u W' R') → wpAny P .any ops Q fuel (listed.setIfInBounds i true) (A.put o.dst u) W' := by
        rintro u W' ⟨v', Hn, R', ⟨rfl, rfl⟩, hp⟩
        have hnm : i ∉ ms.map Prod.fst := fun hm => by
          obtain ⟨⟨j, c⟩, hq, hji⟩ := List.mem_map.1 hm
          have hq2 := (ordPairs_app (pre := pre) (r := ms) (by rw [← hI.ord]; exact hpairs)).2 _ (hI.pdp i hPd) _ hq
          simp only at hji
          subst hji
          exact (pairOk hq2 ho ho).ne rfl
        refine ih _ _ _ pre ms (Pd.filter (· ≠ i)) E H R' hcnt ⟨hsz, hcl, fun k hk => ?_, hI.ord, fun k hk => hI.pdp k (List.mem_filter.1 hk).1, hI.am, fun k hk => hI.pend k (List.mem_filter.1 hk).1, by simpa using hI.rels.step hp, ?_, ?_, fun t x ht hpd => ?_⟩ hhd
        · by_cases hki : k = i
          · subst hki
            rw [hgi]
            simp [hnm, hnl]
          · rw [hgd k hki, hI.part k hk]
            simp [hki]
        · rw [hd]; exact hI.defers
        · rw [hd]; simp [Act.put, hI.tmps]
        · rw [hd]
          by_cases hdt : d = t
          · subst hdt
            rw [hlk] at ht
            cases ht
            rw [eval_put_same (by rw [hI.tmps]; exact hN)]; exact hp.val
          · rw [eval_put_other hdt]
            refine (hI.act t x ht fun k hk ok hok hdk => ?_).mono hp.sub (extSame hp.ext hI.rels.rlt)
            by_cases hki : k = i
            · subst hki
              rw [ho] at hok
              cases hok
              rw [hd] at hdk
              cases hdk
              exact hdt rfl
            · exact hpd k (List.mem_filter.2 ⟨hk, by simpa using hki⟩) ok hok hdk
      unfold wpOp
      rw [ho]
      unfold FStep at hs
      show if Region.wanted o (yielded ops A.tmps) = true then _ else _
      split
      · rename_i hw
        rw [if_pos hw] at hs
        refine .inl (Oper.wp_mono ?_ (wp_of_noQ hs))
        rintro A' W' ⟨u, rfl, hp⟩
        exact hnext u W' hp
      · rename_i hw
        rw [if_neg hw] at hs
        exact hnext _ _ hs
    · -- the next that writes
      rcases hhd with rfl | ⟨m, r, rfl⟩
      · cases hms
      have hmlt : m < ops.size := by have := hlt (m, true) (by rw [hI.ord]; simp); exact this
      have hmf : listed.getD m false = false := (hI.part m hmlt).2 (.inr (.inl (by simp)))
      have him : i = m := by
        rcases List.mem_cons.1 hms with h | h
        · exact h
        · exfalso
          obtain ⟨⟨j, c⟩, hq, hji⟩ := List.mem_map.1 h
          simp only at hji
          subst hji
          have h9 := (ordPairs_app (pre := pre ++ [(m, true)]) (r := r) (by have := hI.ord; rw [List.append_assoc, List.singleton_append, ← this]; exact hpairs)).2 (m, true) (by simp) _ hq
          have hom : ops[m]? = some ops[m] := by simp [hmlt]
          have := hanc m ((pairOk h9 hom ho).main rfl)
          rw [hmf] at this; cases this
      subst him
      obtain ⟨o', ho', hAO⟩ := hI.am
      obtain rfl : o = o' := by rw [ho] at ho'; exact Option.some.inj ho'
      have hA := hI.reads hpairs ho hdeps (b := true) (.inr ⟨r, rfl⟩)
      have hs := hAO W R R A W ⟨Mods.refl _ _, hI.rels.rlt, fun _ h => h, fun _ h => .inl h, fun e he => hI.rels.ok e (List.mem_append_left _ he), fun e he b hb => ⟨.inr ⟨e, he, hb⟩, (hI.rels.own e (List.mem_append_left _ he) b hb).2⟩, (List.pairwise_append.1 hI.rels.disj).1⟩ hA
      have hnext : ∀ u W', QS ⟨W, footOf H, R, Γ.N⟩ o.dst (fun v H' => AM P Γ.N ops Hs K r (putE o.dst v E) H') .normal (A.put o.dst u) W' → wpAny P .any ops Q fuel (listed.setIfInBounds i true) (A.put o.dst u) W' := by
        rintro u W' ⟨hdf, v, H', R', ham, hsr, hvr⟩
        obtain ⟨hrel, hRW⟩ := RelS.part hI.rels hsr
        have hpd : ∀ k ∈ Pd, ∀ ok, ops[k]? = some ok → ∀ d, o.dst = some d → d ∉ ok.looksAt ops ∧ ok.dst ≠ some d := fun k hk ok hok d hd => by
          have h9 := (ordPairs_app (pre := pre) (r := (i, true) :: r) (by rw [← hI.ord]; exact hpairs)).2 _ (hI.pdp k hk) (i, true) (List.mem_cons_self ..)
          have hkf : listed.getD k false = false := (hI.part k (Array.getElem?_eq_some_iff.1 hok).1).2 (.inl hk)
          have hno : k ∉ (ancs ops.toList []).getD i [] := fun hm => by
            have := hanc k hm
            rw [hkf] at this; cases this
          exact ⟨fun hm => hno ((pairOk h9 hok ho).mn rfl d hd (.inl hm)), fun he => hno ((pairOk h9 hok ho).mn rfl d hd (.inr he))⟩
        have hnr : i ∉ r.map Prod.fst := fun hm => by
          obtain ⟨⟨j, c⟩, hq, hji⟩ := List.mem_map.1 hm
          have h9 := (ordPairs_app (pre := pre ++ [(i, true)]) (r := r) (by have := hI.ord; rw [List.append_assoc, List.singleton_append, ← this]; exact hpairs)).2 (i, true) (by simp) _ hq
          simp only at hji
          subst hji
          exact (pairOk h9 ho ho).ne rfl
        have hnp : i ∉ Pd := fun hk => by
          have h9 := (ordPairs_app (pre := pre) (r := (i, true) :: r) (by rw [← hI.ord]; exact hpairs)).2 _ (hI.pdp i hk) (i, true) (List.mem_cons_self ..)
          exact (pairOk h9 ho ho).ne rfl
        have hI' : MJ P Γ ops Hs K ord late (listed.setIfInBounds i true) (A.put o.dst u) W' (pre ++ [(i, true)]) r Pd (putE o.dst v E) H' R' := by
          refine ⟨hsz, hcl, fun k hk => ?_, by rw [hI.ord]; simp, fun k hk => List.mem_append_left _ (hI.pdp k hk), ham, fun k hk => ?_, hrel, hdf, ?_, fun t x ht hp => ?_⟩
          · by_cases hki : k = i
            · subst hki
              rw [hgi]
              simp [hnr, hnp, hnl]
            · rw [hgd k hki, hI.part k hk]
              simp [hki]
          · obtain ⟨ok, dk, vk, h1, h2, h3, h4, h5⟩ := hI.pend k hk
            refine ⟨ok, dk, vk, h1, h2, h3, ?_, ?_⟩
            · cases hd : o.dst with
              | none => exact h4
              | some d => rw [putE, look_skip (fun e => (hpd k hk ok h1 d hd).2 (by rw [h2, e]))]; exact h4
            · cases hd : o.dst with
              | none => exact h5
              | some d => rw [putE, rst_skip (hpd k hk ok h1 d hd).1]; exact h5
          · cases hd : o.dst <;> simp [Act.put, hI.tmps]
          · cases hd : o.dst with
            | none =>
              rw [hd] at ht
              exact (hI.act t x ht hp).mono hsr.rsub hRW
            | some d =>
              rw [hd, putE] at ht
              by_cases hdt : d = t
              · subst hdt
                rw [look_here] at ht
                cases ht
                have := hvr d hd
                rwa [hd] at this
              · rw [look_skip hdt] at ht
                rw [eval_put_other hdt]
                exact (hI.act t x ht hp).mono hsr.rsub hRW
        obtain ⟨pre', ms', Pd', E', hI2, hh2⟩ := hI'.absorb hpairs
        exact ih _ _ _ pre' ms' Pd' E' H' R' hcnt hI2 hh2
      unfold wpOp
      rw [ho]
      unfold wpList at hs
      show if Region.wanted o (yielded ops A.tmps) = true then _ else _
      split
      · rename_i hw
        rw [if_pos hw] at hs
        refine .inl ?_
        rcases hs with hs | ⟨-, a', w', hl⟩
        · have hs2 : o.wp P A W (wpList P ops (QS ⟨W, footOf H, R, Γ.N⟩ o.dst (fun v H' => AM P Γ.N ops Hs K r (putE o.dst v E) H')) []) NoQ := by
            unfold Oper.wp at hs ⊢
            revert hs
            cases (execOp A.eval o).run P W with
            | ok n w' =>
              cases n with
              | enter f args =>
                intro hs
                refine Calls.mono hs ?_
                intro e w'' he
                cases e with
                | returned v => exact he
                | outgrown => obtain ⟨a', w', hl⟩ := he; exact hl.elim
                | _ => exact he.elim
              | _ => exact fun h => h
            | halt x w' => cases x <;> exact fun h => h
          refine Oper.wp_mono ?_ (wp_of_noQ (Oper.wp_put hs2))
          rintro A' W' ⟨hq, hA'⟩
          have hq' : QS ⟨W, footOf H, R, Γ.N⟩ o.dst (fun v H' => AM P Γ.N ops Hs K r (putE o.dst v E) H') .normal A' W' := hq
          rcases hA' with ⟨u, rfl⟩ | hnd
          · exact hnext u W' hq'
          · exact absurd hq'.1 hnd
        · exact hl.elim
      · rename_i hw
        rw [if_neg hw] at hs
        exact hnext _ _ hs
    · exact absurd hlt' hnl

/-- Operations in stages. -/
def AMS (P : Program) (N : Nat) (ops : Array Oper) (K : Env → List HE → Prop) : List (List (Nat × Bool)) → Env → List HE → Prop
  | [], E, H => K E H
  | ord :: r, E, H => ∃ Hm Hs, SplitH E H Hm Hs ∧ AM P N ops Hs (fun E' H' => AMS P N ops K r E' (H' ++ Hs)) ord E Hm
theorem AMS.go {ord : List (Nat × Bool)} {r : List (List (Nat × Bool))} {E : Env} {H Hm Hs : List HE} (hH : SplitH E H Hm Hs) (h : AM P N ops Hs (fun E' H' => AMS P N ops K r E' (H' ++ Hs)) ord E Hm) : AMS P N ops K (ord :: r) E H := ⟨Hm, Hs, hH, h⟩
theorem AMS.nil {E : Env} {H : List HE} (h : K E H) : AMS P N ops K [] E H := h
def stagesOk (ops : Array Oper) (an : List (List Nat)) : List (List (Nat × Bool)) → Bool
  | [] => true
  | ord :: r => ordPairs ops an ord && (ord.all fun q => decide (q.1 < ops.size)) && (r.all fun s => s.all fun j => ord.all fun q => (an.getD j.1 []).contains q.1) && stagesOk ops an r
def stagesAll (ops : Array Oper) (os : List (List (Nat × Bool))) : Bool :=
  ((List.range ops.size).all fun i => os.any fun ord => ord.any fun q => q.1 == i) &&
  ((List.range ops.size).all fun i => (ops[i]?).all fun o => o.after.all fun e => !Region.binds .any e || decide (e.on < i)) && stagesOk ops (ancs ops.toList []) os
theorem AMS.run {Q : Exit → Act → World → Prop} (hback : ∀ i o, ops[i]? = some o → ∀ e ∈ o.after, Region.binds .any e = true → e.on < i) : ∀ (os : List (List (Nat × Bool))), stagesOk ops (ancs ops.toList []) os = true →
    ∀ (listed : Array Bool) (A : Act) (W : World) (E : Env) (H : List HE) (R : Nat → Prop), listed.size = ops.size → Closed ops listed → (∀ i, i < ops.size → (listed.getD i false = false ↔ i ∈ (os.flatten).map Prod.fst)) → RelS Γ R H W → RelA Γ.N R W E A →
      AMS P Γ.N ops (fun E' H' => AQ Γ Q .normal E' H') os E H → wpAny P .any ops Q (listed.toList.count false) listed A W
  | [], _, listed, A, W, E, H, R, hsz, hcl, hpt, hs, ha, h => by
    have hlist : ∀ i, i < ops.size → listed.getD i false = true := by
      intro i hi
      cases hb : listed.getD i false with
      | true => rfl
      | false => have := (hpt i hi).1 hb; cases this
    have h0 : listed.toList.count false = 0 := by
      rw [List.count_eq_zero]
      intro hm
      obtain ⟨i, hi, hf⟩ := List.getElem_of_mem hm
      have hi' : i < listed.size := by simpa using hi
      have := hlist i (by rw [← hsz]; exact hi')
      rw [show listed.getD i false = listed[i] by simp [Array.getD, hi']] at this
      rw [show listed.toList[i] = listed[i] by simp, this] at hf
      cases hf
    rw [h0]
    refine ⟨?_, h R A W hs ha⟩
    rw [List.eq_nil_iff_forall_not_mem]
    intro i hi
    obtain ⟨h0, o, ho, _⟩ := mem_ready.1 hi
    have hi' : i < ops.size := (Array.getElem?_eq_some_iff.1 ho).1
    have := hlist i hi'
    rw [← getD_tf (by rw [hsz]; exact hi')] at this
    rw [this] at h0; cases h0
  | ord :: os, hok, listed, A, W, E, H, R, hsz, hcl, hpt, hs, ha, h => by
    rw [stagesOk] at hok
    simp only [Bool.and_eq_true, List.all_eq_true, decide_eq_true_eq, List.contains_eq_mem] at hok
    obtain ⟨⟨⟨hp, hlt⟩, hlate⟩, hrest⟩ := hok
    obtain ⟨Hm, Hs, hH, hAM⟩ := h
    have hI : MJ P Γ ops Hs (fun E' H' => AMS P Γ.N ops (fun E' H' => AQ Γ Q .normal E' H') os E' (H' ++ Hs)) ord (os.flatten.map Prod.fst) listed A W [] ord [] E Hm R := by
      refine ⟨hsz, hcl, fun i hi => ?_, rfl, fun i hi => (by cases hi), hAM, fun i hi => (by cases hi), hs.perm hH.symm, ha.defers, ha.size, fun t v ht _ => ha.slots t v ht⟩
      rw [hpt i hi]
      simp
    obtain ⟨pre', ms', Pd', E', hI2, hh2⟩ := hI.absorb hp
    refine MJ.stage hback hp hlt (fun j hj q hq => ?_) (fun listed A W E H R h1 h2 h3 h4 h5 h6 => AMS.run hback os hrest listed A W E _ R h1 h2 h3 h4 h5 h6) _ listed A W pre' ms' Pd' E' Hm R rfl hI2 hh2
    obtain ⟨x, hx, rfl⟩ := List.mem_map.1 hj
    obtain ⟨s, hs1, hs2⟩ := List.mem_flatten.1 hx
    exact hlate s hs1 x hs2 q hq
theorem AW.regionS {Q : Exit → Act → World → Prop} {E : Env} {H : List HE} {id : Nat} {l : List Oper} (os : List (List (Nat × Bool))) (hm : P.follows .mixedOrders = true) (hok : stagesAll l.toArray os = true)
    (h : AMS P Γ.N l.toArray (fun E' H' => AQ Γ Q .normal E' H') os E H) : AW Γ P Q (.region id l.toArray true) E H := fun R a W hs0 ha0 => by
  obtain ⟨ops, hops⟩ : ∃ ops, ops = l.toArray := ⟨_, rfl⟩
  rw [← hops] at h hok
  simp only [stagesAll, Bool.and_eq_true, List.all_eq_true, List.mem_range] at hok
  obtain ⟨⟨hall, hbk⟩, hst⟩ := hok
  have hback : ∀ i o, ops[i]? = some o → ∀ e ∈ o.after, Region.binds .any e = true → e.on < i := fun i o ho e he hb => by
    have hi : i < ops.size := (Array.getElem?_eq_some_iff.1 ho).1
    have := hbk i hi
    rw [ho] at this
    simp only [Option.all_some] at this
    have := Array.all_eq_true_iff_forall_mem.1 this e he
    simpa [hb] using this
  have hs : RelS Γ R H W.drew := ⟨hs0.mods.drew, hs0.rlt, hs0.rsub, hs0.rnew, fun e he => HE.ok_mono (W := W) (W' := W.drew) (fun _ h => h) (fun _ _ => rfl) (Nat.le_refl _) (fun _ _ => rfl) (hs0.ok e he), hs0.own, hs0.disj⟩
  have ha : RelA Γ.N R W.drew E a := ha0.mono (fun _ h => h) (fun _ _ => rfl)
  refine wp_region_any hm ?_
  rw [← hops]
  have hc : (Array.replicate ops.size false).toList.count false = ops.size := by simp
  have := AMS.run (Γ := Γ) hback os hst (Array.replicate ops.size false) a W.drew E H R (by simp) (fun i o hl => by
    exfalso
    by_cases h : i < ops.size <;> simp [Array.getD, h] at hl) (fun i hi => by
      have := hall i hi
      simp only [List.any_eq_true, beq_iff_eq] at this
      obtain ⟨ord, ho, q, hq, hqi⟩ := this
      constructor
      · intro _
        exact List.mem_map.2 ⟨q, List.mem_flatten.2 ⟨ord, ho, hq⟩, hqi⟩
      · intro _
        simp [Array.getD, hi]) hs ha h
  rw [hc] at this
  exact this
end
end Go.Proofs.Ytbmndjjaaeambaa.A

/-
  []byte("..") of a constant: the row is marked, and read only from then on.
-/
namespace Go.Proofs.Ytbmndjjaaeambaa.A
open Go.RowKit L
set_option linter.unusedVariables false
set_option linter.unusedSimpArgs false
section
variable {Γ : Cx} {P : Program} {ops : Array Oper} {Q : Exit → Act → World → Prop} {E : Env} {H : List HE} {o : Oper} {rest : List Oper}
theorem heap_freeze {W : World} {b k : Nat} {cs : Array Value} {U : TypeId} (hb : W.heap[b]? = some (.cells cs U (0, 0))) :
    (W.freeze ⟨b, k, none⟩ 1).heap[b]? = some (.cells cs U (k, k + 1)) ∧ (∀ q, q ≠ b → (W.freeze ⟨b, k, none⟩ 1).heap[q]? = W.heap[q]?) ∧ (W.freeze ⟨b, k, none⟩ 1).heap.size = W.heap.size := by
  obtain ⟨hlt, he⟩ := Array.getElem?_eq_some_iff.1 hb
  unfold World.freeze
  rw [if_neg (by decide)]
  refine ⟨?_, fun q hq => ?_, by simp⟩
  · simp [Array.getElem?_modify, hb]
  · simp [Array.getElem?_modify, Ne.symm hq]
theorem AO.constBytes {T U d i b room c n : Nat} {x : Operand} {xs : List AV} {l : List UInt8} [hT : TyD P T (.slice U)] [hU : TyD P U (.int .u8)] (ho : o.op = .convert T T x) (hgd : o.guard = none) (hd : o.dst = some d) (hN : d < Γ.N)
    (hx : ev E x = some (.val (.slice (some ⟨b, 0, none⟩) n c))) (hi : H[i]? = some (.blk b U room xs)) (hl : xs = bytesA l) (hn : n = l.length) (hc : n ≤ c ∧ c ≤ maxLen) (next : AO Γ P ops Q rest ((d, roB l) :: E) (H.eraseIdx i)) : AO Γ P ops Q (o :: rest) E H := fun R a W hs ha => by
  have hmem := List.mem_of_getElem? hi
  obtain ⟨hlt, he⟩ := List.getElem?_eq_some_iff.1 hi
  obtain ⟨us, cs, hb, hsz, ht, hr⟩ := hs.ok _ hmem
  obtain ⟨f1, f2, f3⟩ := heap_freeze (k := cs.size) hb
  have hsh : W.shape? b = some (U, cs.size) := by unfold World.shape?; rw [hb]
  have hrun : (execOp a.eval o).run P W = .ok (.value (.slice (some ⟨b, 0, none⟩) n c)) (W.freeze ⟨b, cs.size, none⟩ 1) := by
    simp [execOp, ho, (ha.ev hx).val_inv, convert, run_underlying hT.ax, run_underlying hU.ax, markStringish, hsh]
  have hbR : ¬ R b := (hs.own _ hmem b rfl).2
  have hm : Mods (fun q => q = b) W (W.freeze ⟨b, cs.size, none⟩ 1) := ⟨by unfold World.freeze; rw [if_neg (by decide)], by unfold World.freeze; rw [if_neg (by decide)], by unfold World.freeze; rw [if_neg (by decide)], by rw [f3]; exact Nat.le_refl _, fun q hq hqb => f2 q hqb⟩
  have hW : ∀ q, R q → (W.freeze ⟨b, cs.size, none⟩ 1).heap[q]? = W.heap[q]? := fun q hq => f2 q fun e => hbR (e ▸ hq)
  have hRS : ∀ q, R q → R q ∨ q = b := fun q h => .inl h
  have hsub : (H.eraseIdx i).Sublist H := List.eraseIdx_sublist _ _
  have hdis : ∀ f ∈ H.eraseIdx i, ∀ q, f.foot q → q ≠ b := fun f hf q hq hqb => by
    obtain ⟨j, hj, rfl⟩ := List.getElem_of_mem hf
    rw [List.getElem_eraseIdx] at hq
    rw [List.length_eraseIdx, if_pos hlt] at hj
    split at hq
    · exact (List.pairwise_iff_getElem.1 hs.disj j i (by omega) hlt (by omega)) q hq (by rw [he]; exact hqb)
    · exact (List.pairwise_iff_getElem.1 hs.disj i (j + 1) hlt (by omega) (by omega)) q (by rw [he]; exact hqb) hq
  unfold wpList
  rw [if_pos (by unfold Region.wanted; rw [hgd])]
  refine .inl ?_
  unfold Oper.wp
  rw [hrun]
  show wpList P ops Q rest (a.put o.dst _) _
  rw [hd]
  refine next (fun q => R q ∨ q = b) _ _ ⟨Mods.then hs.mods hm fun q hq hqb => ?_, ?_, fun q hq => .inl (hs.rsub q hq), ?_, fun e he => HE.ok_mono hRS hW (by rw [f3]; exact Nat.le_refl _) (fun q hq => f2 q (hdis e he q hq)) (hs.ok e (hsub.subset he)), ?_, hs.disj.sublist hsub⟩ ((ha.mono hRS hW).put hN ?_)
  · rcases (hs.own _ hmem b rfl).1 with h | h
    · omega
    · rw [hqb]; exact h
  · rintro q (hq | hq)
    · rw [f3]; exact hs.rlt q hq
    · rw [f3, hq]; exact (Array.getElem?_eq_some_iff.1 hb).1
  · rintro q (hq | hq)
    · exact hs.rnew q hq
    · exact .inr (hq ▸ (hs.own _ hmem b rfl).1)
  · intro e he q hq
    refine ⟨(hs.own e (hsub.subset he) q hq).1, ?_⟩
    rintro (h | h)
    · exact (hs.own e (hsub.subset he) q hq).2 h
    · exact hdis e he q hq h
  · subst hl; subst hn
    have hlen : us.length = l.length := by rw [hr.1]; simp [bytesA]
    unfold roB
    refine .ro false l.length (bytesA l) b 0 c (fun j => us.getD j undef) (.inr rfl) (fun j hj => ?_) (fun j hj => (hr.mono hRS hW).2 j hj) hc.1 hc.2 (fun h => by cases h)
    have hj' : j < us.length := by rw [hlen]; simpa [bytesA] using hj
    have h9 : us[j]? = cs[j]? := by
      rw [← ht, List.getElem?_take, if_pos (by simpa [bytesA] using hj)]; simp
    simp only [World.cell?, f1, Nat.zero_add]
    have h10 : cs[j]? = some us[j] := by rw [← h9]; simp [hj']
    simpa [hj'] using h10
end
end Go.Proofs.Ytbmndjjaaeambaa.A

/-
  make([]byte, n) that is only read.
-/
namespace Go.Proofs.Ytbmndjjaaeambaa.A
open Go.RowKit L
set_option linter.unusedVariables false
set_option linter.unusedSimpArgs false
section
variable {P : Program} {E : Env} {H : List HE} {N : Nat} {o : Oper}
theorem zerosU8 (n : Nat) : zerosA n (.int .u8 0) = bytesA (List.replicate n 0) := by
  rw [zerosA, show (Value.int IntKind.u8 0).cells.toList.map AV.val = [AV.val (.int .u8 0)] from rfl, List.flatten_replicate_singleton]
  simp [bytesA]
theorem O.makeB {T U k bs : Nat} {x y : Operand} {n : Nat} {kl kc : IntKind} {p q : Int} [hs : TyS P T U k bs (.int .u8 0)] (ho : o.op = .makeSlice T x y) (hx : ev E x = some (.val (.int kl p))) (hy : ev E y = some (.val (.int kc q))) (hp : p = (n : Int)) (hq : q = (n : Int)) (hn : n * bs ≤ 140737488355328) (hn2 : n ≤ maxLen) (hzk : Nat.beq (Value.int IntKind.u8 0).cells.size k = true) :
    OpW P N o E H (Is (roB (List.replicate n 0))) := by
  have := OpW.frz (O.makeSlice (P := P) (z := .int .u8 0) (N := N) (H := H) ho hx hy hp hq hn hn2 hzk) hn2
  rw [zerosU8] at this
  rwa [show roB (List.replicate n (0 : UInt8)) = .ro false n (bytesA (List.replicate n 0)) by unfold roB; rw [List.length_replicate]]
end
end Go.Proofs.Ytbmndjjaaeambaa.A

/-
  What own rows and read only slices hold, in other words.
-/
namespace Go.Proofs.Ytbmndjjaaeambaa.A
open Go.RowKit L
set_option linter.unusedVariables false
set_option linter.unusedSimpArgs false
section
variable {Γ : Cx} {P : Program} {Q : Exit → Act → World → Prop} {E : Env} {H : List HE} {N : Nat} {o : Oper} {ops : Array Oper} {rest : List Oper}
theorem CoeL.app {a b x y : List AV} (h : CoeL a b) (k : CoeL x y) : CoeL (a ++ x) (b ++ y) := fun R W us hu => by
  induction a generalizing b us with
  | nil =>
    have hb : b = [] := by
      have := (h R W [] RelL.nil).1
      exact List.eq_nil_of_length_eq_zero this.symm
    subst hb
    exact k R W us hu
  | cons u a ih =>
    have h1 : us.take (a.length + 1) ++ us.drop (a.length + 1) = us := List.take_append_drop ..
    have h2 := hu.take (a.length + 1)
    have h3 := hu.drop (a.length + 1)
    rw [show ((u :: a) ++ x).take (a.length + 1) = u :: a by simp] at h2
    rw [show ((u :: a) ++ x).drop (a.length + 1) = x by simp] at h3
    rw [← h1]
    exact RelL.app (h R W _ h2) (k R W _ h3)
theorem Coe.ro {full : Bool} {n : Nat} {xs ys : List AV} (h : CoeL xs ys) : Coe (.ro full n xs) (.ro full n ys) := fun R W u hu => by
  cases hu with
  | emp _ a cap h1 h2 =>
    have hy : ys = [] := List.eq_nil_of_length_eq_zero (h R W [] RelL.nil).1.symm
    subst hy
    exact .emp _ a cap h1 h2
  | ro _ _ _ b off cap us hb hc hr h1 h2 h3 =>
    have hl : RelL R W xs ((List.range xs.length).map us) := ⟨by simp, fun j hj => by simpa [hj] using hr j hj⟩
    have hk := h R W _ hl
    have he : ys.length = xs.length := by have := hk.1; simpa using this.symm
    refine .ro _ _ _ b off cap us hb (fun j hj => hc j (by omega)) (fun j hj => ?_) h1 h2 h3
    have := hk.2 j hj
    rw [he] at hj
    simpa [hj] using this
theorem G.coeRow {X : Act → World → Prop} (i : Nat) {v : Value} {T sz n : Nat} {xs : List AV} (m : Nat) (ys : List AV) (hi : H[i]? = some (.row v T sz n xs)) (hm : n = m) (h : CoeL xs ys) (k : G Γ E (H.set i (.row v T sz m ys)) X) : G Γ E H X := fun R a W hs ha => by
  subst hm
  obtain ⟨us, h1, h2⟩ := hs.ok _ (List.mem_of_getElem? hi)
  exact k R a W (hs.setSame hi (fun b hb => hb) ⟨us, h1, h R W us h2⟩) ha
theorem G.coeBlk {X : Act → World → Prop} (i : Nat) {b T room : Nat} {xs : List AV} (ys : List AV) (hl : ys.length = xs.length) (hi : H[i]? = some (.blk b T room xs)) (h : CoeL xs ys) (k : G Γ E (H.set i (.blk b T room ys)) X) : G Γ E H X := fun R a W hs ha => by
  obtain ⟨us, cs, h1, h2, h3, h4⟩ := hs.ok _ (List.mem_of_getElem? hi)
  exact k R a W (hs.setSame hi (fun b hb => hb) ⟨us, cs, h1, h2, by rw [hl]; exact h3, h R W us h4⟩) ha
/-- A part of nil. -/
theorem O.sliceN {T : Nat} {x : Operand} {low high : Option Operand} {l h : Int} {U sz bs : Nat} {zz : Value} [hs : TyS P T U sz bs zz] (ho : o.op = .slice T x low high none) (hx : ev E x = some (.val (.slice none 0 0))) (hl : bndV E low 0 = some l) (hh : bndV E high 0 = some h) (h0 : 0 ≤ l ∧ l ≤ h ∧ h ≤ 0) :
    OpW P N o E H (Is (.val (.slice none 0 0))) := .of_run fun R a W h1 h2 ha => by
  obtain ⟨i, hi, hi2, -⟩ := hs.el
  have hb := run_sliceBoundsV (P := P) (W := W) (cap := 0) ha hl hh h0
  have e1 : l = 0 := by omega
  have e2 : h = 0 := by omega
  subst e1
  subst e2
  refine ⟨.slice none 0 0, ?_, .val _⟩
  simp only [execOp, ho, (ha.ev hx).val_inv, Instr.sliceAt, Instr.slice, run_underlying hs.ty, Sem.run_bind, Result.andThen_ok, hb, sizeOf, typeInfo, hi, hi2, run_program, Sem.run_pure, Option.map_none]
  simp
/-- A literal whose elements are all given, in order. -/
def seqA (k : Nat) : Nat → List (Nat × AV) → Option (List AV)
  | _, [] => some []
  | i, (j, v) :: r => bif Nat.beq j i && Nat.beq v.cells.length k then (match seqA k (i + 1) r with | some ys => some (v.cells ++ ys) | none => none) else none
theorem splice_pre : ∀ (cs pre zs : List AV), cs.length ≤ zs.length → splice (pre ++ zs) pre.length cs = pre ++ cs ++ zs.drop cs.length
  | [], pre, zs, h => by simp [splice]
  | c :: cs, pre, [], h => by simp at h
  | c :: cs, pre, z :: zs, h => by
    rw [splice, show (pre ++ z :: zs).set pre.length c = (pre ++ [c]) ++ zs by simp, show pre.length + 1 = (pre ++ [c]).length by simp, splice_pre cs (pre ++ [c]) zs (by simpa using h)]
    simp
theorem fill_seq {k : Nat} : ∀ (ps : List (Nat × AV)) (i : Nat) (pre zs ys : List AV), seqA k i ps = some ys → pre.length = i * k → zs.length = ps.length * k → fillA (fun i => some (i * k, k)) (pre ++ zs) ps = some (pre ++ ys)
  | [], i, pre, zs, ys, h, h1, h2 => by
    have : zs = [] := List.eq_nil_of_length_eq_zero (by simpa using h2)
    subst this
    cases h
    rfl
  | (j, v) :: r, i, pre, zs, ys, h, h1, h2 => by
    rw [seqA] at h
    cases hc : (Nat.beq j i && Nat.beq v.cells.length k) with
    | false => rw [hc] at h; cases h
    | true =>
      rw [hc] at h
      simp only [Bool.and_eq_true] at hc
      have hj := Nat.eq_of_beq_eq_true hc.1
      have hk := Nat.eq_of_beq_eq_true hc.2
      subst hj
      cases hr : seqA k (j + 1) r with
      | none => rw [hr] at h; cases h
      | some ys' =>
        rw [hr] at h
        cases h
        have hz : v.cells.length ≤ zs.length := by rw [h2, hk, List.length_cons, Nat.add_mul]; omega
        unfold fillA
        simp only
        have hb : (Nat.beq v.cells.length k && Nat.ble (j * k + v.cells.length) (pre ++ zs).length) = true := by
          simp only [Bool.and_eq_true]
          exact ⟨hc.2, Nat.ble_eq_true_of_le (by rw [List.length_append, h1]; omega)⟩
        rw [hb]
        show fillA _ (splice (pre ++ zs) (j * k) v.cells) r = _
        rw [← h1, splice_pre _ _ _ hz]
        have := fill_seq r (j + 1) (pre ++ v.cells) (zs.drop v.cells.length) ys' hr (by rw [List.length_append, h1, hk, Nat.add_mul]; omega) (by rw [List.length_drop, h2, hk, List.length_cons, Nat.add_mul]; omega)
        rw [this, List.append_assoc]
theorem O.buildSliceF {T U k bs n : Nat} {z : Value} {parts : List (Nat × Operand)} {ps : List (Nat × AV)} {ys : List AV} [hs : TyS P T U k bs z] (ho : o.op = .buildSlice T n parts.toArray) (hx : evp E parts = some ps) (h1 : vals1 ps = true)
    (hsm : Nat.ble (n * k) 16777216 = true) (hpos : Nat.ble 1 (n * k) = true) (hzk : Nat.beq z.cells.size k = true) (hn : Nat.beq ps.length n = true) (hy : seqA k 0 ps = some ys) : OpW P N o E H (NewBlk (fun b => .val (.slice (some ⟨b, 0, none⟩) n n)) U (n * k) ys) :=
  O.buildSlice ho hx h1 hsm hpos hzk (by
    have := fill_seq ps 0 [] (zerosA n z) ys hy (by simp) (by
      have hzl : (z.cells.toList.map AV.val).length = k := by rw [List.length_map, Array.length_toList]; exact Nat.eq_of_beq_eq_true hzk
      rw [Nat.eq_of_beq_eq_true hn, zerosA, List.length_flatten, List.map_replicate, hzl]; simp)
    simpa using this)
/-- A new row that nobody writes is read only from the start. -/
theorem OpW.frzR {U k n : Nat} {ys : List AV} (h : OpW P N o E H (NewRow U k n ys)) : OpW P N o E H (Is (.ro false n ys)) := fun R a W h1 h2 h3 h4 => by
  refine Oper.wp_mono ?_ (h R a W h1 h2 h3 h4)
  rintro A' W' ⟨u, v, Hn, R', rfl, ⟨v0, rfl, hv0, rfl⟩, p⟩
  obtain ⟨hok, hfo⟩ := p.ok _ (List.mem_cons_self ..)
  have hu := p.val.val_inv
  subst hu
  have hok' := hok
  obtain ⟨us, hown, hr⟩ := hok
  refine ⟨_, .ro false n ys, [], fun c => R' c ∨ (HE.row u U k n ys).foot c, rfl, ⟨rfl, rfl⟩, p.ext, fun c hc => .inl (p.sub c hc), fun c hc => ?_, ?_, fun _ he => (by cases he), .nil⟩
  · rcases hc with hc | hc
    · exact p.new c hc
    · exact .inr ⟨(hfo _ hc).1, HE.ok_lt hok' hc⟩
  · have hr' := hr.mono (R' := fun c => R' c ∨ (HE.row u U k n ys).foot c) (fun _ h => .inl h) (W' := W') (fun _ _ => rfl)
    rcases hown.2 with ⟨rfl, rfl⟩ | ⟨g, cap, cur, rfl, hbg, hg, h1, h2, h3, h4⟩
    · have : ys = [] := List.eq_nil_of_length_eq_zero (by rw [← hr.1, hown.1]; simp)
      subst this
      exact .emp _ _ _ (fun h => by cases h) (Nat.zero_le _)
    · refine .ro false n ys g 0 cap (fun j => us.getD j undef) (.inr rfl) (fun j hj => ?_) (fun j hj => hr'.2 j hj) h1 h2 (fun h => by cases h)
      have hj' : j < us.length := by rw [hr.1]; exact hj
      have := hown.cells (g := g) rfl j us[j] (by simp [hj'])
      rw [addr_add] at this
      rw [this]
      simp [List.getD, hj']
/-! ### Several results, each in a temporary or in a box -/
def resOne (tmps : Array Value) : ResultVar → Sem Value
  | .tmp t => pure (tmps.getD t undef)
  | .cell a t => do loadVar t (← asAddr (tmps.getD a undef))
theorem results_eq (fn : Func) (tmps : Array Value) : results fn tmps = (do
    let vs ← fn.results.mapM (resOne tmps)
    pure (if h : vs.size = 1 then vs[0] else .tuple vs)) := by
  unfold results
  congr 1
def ResAt (Γ : Cx) (P : Program) (E : Env) (H : List HE) (x : ResultVar) (q : AV) : Prop :=
  ∀ R a W, RelS Γ R H W → RelA Γ.N R W E a → ∃ u, (resOne a.tmps x).run P W = .ok u W ∧ RelV R W q u
theorem ResAt.tmp {t : Nat} {q : AV} (h : look E t = some q) : ResAt Γ P E H (.tmp t) q := fun R a W hs ha => ⟨a.eval (.tmp t), rfl, ha.slots t q h⟩
theorem ResAt.cell {t T k b T' room : Nat} {xs ys : List AV} [hg : TyG P T true k] (ht : look E t = some (.val (.pointer (some ⟨b, 0, none⟩)))) (hm : HE.blk b T' room xs ∈ H) (hv : xs.take k = ys) (hk : ys.length = k) : ResAt Γ P E H (.cell t T) (.agg ys) := fun R a W hs ha => by
  obtain ⟨us, cs, hb, hsz, hts, hrl⟩ := hs.ok _ hm
  have hrl := hrl.take k
  rw [hv] at hrl
  have hl := run_loadVarK hg W b 0 (us.take k) (by rw [hrl.1, hk]) (fun i u hi => by
    rw [cell_of_row W b (0 + i) cs T' (0, 0) hb]
    rw [List.getElem?_take] at hi
    split at hi
    · rw [← hts, List.getElem?_take] at hi
      split at hi
      · simpa using hi
      · cases hi
    · cases hi)
  have hv' := (ha.slots t _ ht).val_inv
  refine ⟨.agg (us.take k).toArray, ?_, hrl.toAgg⟩
  have : a.tmps.getD t undef = .pointer (some ⟨b, 0, none⟩) := hv'
  simp [resOne, this, asAddr, hl]
theorem AQ.ret3G {fn : Func} {Post : AV → List HE → Prop} {x y z : ResultVar} {p q r : AV} {H' : List HE} (hr : fn.results = #[x, y, z]) (h1 : ResAt Γ P E H x p) (h2 : ResAt Γ P E H y q) (h3 : ResAt Γ P E H z r)
    (hH : ∃ H1, H1.Sublist H ∧ H'.Perm H1) (hp : Post (.tup [p, q, r]) H') : AQ Γ (FnQ Γ P fn Post) .ret E H := fun R a W hs ha => by
  obtain ⟨H1, k1, k2⟩ := hH
  obtain ⟨u1, e1, g1⟩ := h1 R a W hs ha
  obtain ⟨u2, e2, g2⟩ := h2 R a W hs ha
  obtain ⟨u3, e3, g3⟩ := h3 R a W hs ha
  refine ⟨ha.defers, .tuple #[u1, u2, u3], ?_, _, _, H', R, rfl, hp, ?_, RelL.toTup (us := [u1, u2, u3]) (RelL.cons g1 (RelL.cons g2 (RelL.cons g3 RelL.nil)))⟩
  · rw [results_eq, hr]
    simp [e1, e2, e3]
  · have := (hs.sub k1).perm k2
    exact ⟨this.mods, this.rlt, this.rsub, this.rnew, this.ok, this.own, this.disj⟩
theorem AQ.ret4G {fn : Func} {Post : AV → List HE → Prop} {x y z w : ResultVar} {p q r s : AV} {H' : List HE} (hr : fn.results = #[x, y, z, w]) (h1 : ResAt Γ P E H x p) (h2 : ResAt Γ P E H y q) (h3 : ResAt Γ P E H z r) (h4 : ResAt Γ P E H w s)
    (hH : ∃ H1, H1.Sublist H ∧ H'.Perm H1) (hp : Post (.tup [p, q, r, s]) H') : AQ Γ (FnQ Γ P fn Post) .ret E H := fun R a W hs ha => by
  obtain ⟨H1, k1, k2⟩ := hH
  obtain ⟨u1, e1, g1⟩ := h1 R a W hs ha
  obtain ⟨u2, e2, g2⟩ := h2 R a W hs ha
  obtain ⟨u3, e3, g3⟩ := h3 R a W hs ha
  obtain ⟨u4, e4, g4⟩ := h4 R a W hs ha
  refine ⟨ha.defers, .tuple #[u1, u2, u3, u4], ?_, _, _, H', R, rfl, hp, ?_, RelL.toTup (us := [u1, u2, u3, u4]) (RelL.cons g1 (RelL.cons g2 (RelL.cons g3 (RelL.cons g4 RelL.nil))))⟩
  · rw [results_eq, hr]
    simp [e1, e2, e3, e4]
  · have := (hs.sub k1).perm k2
    exact ⟨this.mods, this.rlt, this.rsub, this.rnew, this.ok, this.own, this.disj⟩
end
end Go.Proofs.Ytbmndjjaaeambaa.A

/-
  Layer 30: classes, requests and responses, both.
-/
namespace Go.Proofs.Ytbmndjjaaeambaa.By
open Go.RowKit L A
set_option linter.unusedVariables false
set_option linter.unusedSimpArgs false
attribute [local irreducible] AW AQ AO
def cls (n : Int) : Int :=
  if n = 3 ∨ n = 7 ∨ n = 9 ∨ n = 16 ∨ n = 35 ∨ n = 39 then 2
  else if n = 6 ∨ n = 14 ∨ n = 23 ∨ n = 27 ∨ n = 28 ∨ n = 60 ∨ n = 252 ∨ n = 258 ∨ n = 292 then 3 else 1
theorem class_fn (n : Int) : Sp Try.prog 9 [.val (.int .i64 n)] [] (Is (.val (.int .i64 (cls n)))) := by
  refine Sp.enter Try.func9 rfl _ Try.ntmps9 rfl (fun w0 R0 => ?_)
  refine AW.seq ?_
  refine AW.region ?_
  refine AO.op (O.assign rfl rfl) rfl rfl rfl ?_
  refine AO.nil ?_
  refine AQ.thenN ?_
  refine AW.seq ?_
  refine AW.seq ?_
  refine AW.region ?_
  refine AO.op (O.move rfl rfl) rfl rfl rfl ?_
  refine AO.nil ?_
  refine AQ.thenN ?_
  refine AW.block ?_
  refine AW.seq ?_
  refine AW.seq ?_
  refine AW.region ?_
  refine AO.op (O.eql rfl rfl rfl (by rfl)) rfl rfl rfl ?_
  refine AO.op (O.assign rfl rfl) rfl rfl rfl ?_
  refine AO.nil ?_
  refine AQ.thenN ?_
  refine AW.joinI [(3, _)] (fun E H => ∃ (c40 : Bool), (c40 = decide (n = 3 ∨ n = 7 ∨ n = 9 ∨ n = 16 ∨ n = 35 ∨ n = 39)) ∧ E = [(4, .val (.bool c40))] ∧ H = []) rfl (by repeat (first | exact envNil | refine envCons rfl ?_)) (fun h40 => ?_) (fun h40 => ?_) ?_ <;> try (try simp only [decide_eq_true_eq, decide_eq_false_iff_not, beq_iff_eq, beq_eq_false_iff_ne, bne_iff_ne, bne_eq_false_iff_eq, Bool.not_eq_true', Bool.not_eq_false', Bool.not_eq_true, Bool.not_eq_false, ne_eq, Int.not_lt, Int.not_le, Bool.and_eq_true, Bool.or_eq_true, Bool.or_eq_false_iff, Bool.and_eq_false_imp, strOf_toList, Decidable.not_not] at h40)
  · skip
    refine AW.skip ?_
    refine AQ.midI _ _ (⟨n == 3, by simp [h40], rfl, rfl⟩) (by repeat (first | exact envNil | refine envCons rfl ?_)) (by repeat (first | exact envNil | refine envCons rfl ?_)) (by repeat (exact subPnil))
  · skip
    refine AW.seq ?_
    refine AW.region ?_
    refine AO.op (O.eql rfl rfl rfl (by rfl)) rfl rfl rfl ?_
    refine AO.op (O.assign rfl rfl) rfl rfl rfl ?_
    refine AO.nil ?_
    refine AQ.thenN ?_
    refine AW.joinI [(3, _)] (fun E H => ∃ (c41 : Bool), (c41 = decide (n = 7 ∨ n = 9 ∨ n = 16 ∨ n = 35 ∨ n = 39)) ∧ E = [(4, .val (.bool c41))] ∧ H = []) rfl (by repeat (first | exact envNil | refine envCons rfl ?_)) (fun h41 => ?_) (fun h41 => ?_) ?_ <;> try (try simp only [decide_eq_true_eq, decide_eq_false_iff_not, beq_iff_eq, beq_eq_false_iff_ne, bne_iff_ne, bne_eq_false_iff_eq, Bool.not_eq_true', Bool.not_eq_false', Bool.not_eq_true, Bool.not_eq_false, ne_eq, Int.not_lt, Int.not_le, Bool.and_eq_true, Bool.or_eq_true, Bool.or_eq_false_iff, Bool.and_eq_false_imp, strOf_toList, Decidable.not_not] at h41)
    · skip
      refine AW.skip ?_
      refine AQ.midI _ _ (⟨n == 7, by simp [h41], rfl, rfl⟩) (by repeat (first | exact envNil | refine envCons rfl ?_)) (by repeat (first | exact envNil | refine envCons rfl ?_)) (by repeat (exact subPnil))
    · skip
      refine AW.seq ?_
      refine AW.region ?_
      refine AO.op (O.eql rfl rfl rfl (by rfl)) rfl rfl rfl ?_
      refine AO.op (O.assign rfl rfl) rfl rfl rfl ?_
      refine AO.nil ?_
      refine AQ.thenN ?_
      refine AW.joinI [(3, _)] (fun E H => ∃ (c42 : Bool), (c42 = decide (n = 9 ∨ n = 16 ∨ n = 35 ∨ n = 39)) ∧ E = [(4, .val (.bool c42))] ∧ H = []) rfl (by repeat (first | exact envNil | refine envCons rfl ?_)) (fun h42 => ?_) (fun h42 => ?_) ?_ <;> try (try simp only [decide_eq_true_eq, decide_eq_false_iff_not, beq_iff_eq, beq_eq_false_iff_ne, bne_iff_ne, bne_eq_false_iff_eq, Bool.not_eq_true', Bool.not_eq_false', Bool.not_eq_true, Bool.not_eq_false, ne_eq, Int.not_lt, Int.not_le, Bool.and_eq_true, Bool.or_eq_true, Bool.or_eq_false_iff, Bool.and_eq_false_imp, strOf_toList, Decidable.not_not] at h42)
      · skip
        refine AW.skip ?_
        refine AQ.midI _ _ (⟨n == 9, by simp [h42], rfl, rfl⟩) (by repeat (first | exact envNil | refine envCons rfl ?_)) (by repeat (first | exact envNil | refine envCons rfl ?_)) (by repeat (exact subPnil))
      · skip
        refine AW.seq ?_
        refine AW.region ?_
        refine AO.op (O.eql rfl rfl rfl (by rfl)) rfl rfl rfl ?_
        refine AO.op (O.assign rfl rfl) rfl rfl rfl ?_
        refine AO.nil ?_
        refine AQ.thenN ?_
        refine AW.joinI [(3, _)] (fun E H => ∃ (c43 : Bool), (c43 = decide (n = 16 ∨ n = 35 ∨ n = 39)) ∧ E = [(4, .val (.bool c43))] ∧ H = []) rfl (by repeat (first | exact envNil | refine envCons rfl ?_)) (fun h43 => ?_) (fun h43 => ?_) ?_ <;> try (try simp only [decide_eq_true_eq, decide_eq_false_iff_not, beq_iff_eq, beq_eq_false_iff_ne, bne_iff_ne, bne_eq_false_iff_eq, Bool.not_eq_true', Bool.not_eq_false', Bool.not_eq_true, Bool.not_eq_false, ne_eq, Int.not_lt, Int.not_le, Bool.and_eq_true, Bool.or_eq_true, Bool.or_eq_false_iff, Bool.and_eq_false_imp, strOf_toList, Decidable.not_not] at h43)
        · skip
          refine AW.skip ?_
          refine AQ.midI _ _ (⟨n == 16, by simp [h43], rfl, rfl⟩) (by repeat (first | exact envNil | refine envCons rfl ?_)) (by repeat (first | exact envNil | refine envCons rfl ?_)) (by repeat (exact subPnil))
        · skip
          refine AW.seq ?_
          refine AW.region ?_
          refine AO.op (O.eql rfl rfl rfl (by rfl)) rfl rfl rfl ?_
          refine AO.op (O.assign rfl rfl) rfl rfl rfl ?_
          refine AO.nil ?_
          refine AQ.thenN ?_
          refine AW.joinI [(3, _)] (fun E H => ∃ (c44 : Bool), (c44 = decide (n = 35 ∨ n = 39)) ∧ E = [(4, .val (.bool c44))] ∧ H = []) rfl (by repeat (first | exact envNil | refine envCons rfl ?_)) (fun h44 => ?_) (fun h44 => ?_) ?_ <;> try (try simp only [decide_eq_true_eq, decide_eq_false_iff_not, beq_iff_eq, beq_eq_false_iff_ne, bne_iff_ne, bne_eq_false_iff_eq, Bool.not_eq_true', Bool.not_eq_false', Bool.not_eq_true, Bool.not_eq_false, ne_eq, Int.not_lt, Int.not_le, Bool.and_eq_true, Bool.or_eq_true, Bool.or_eq_false_iff, Bool.and_eq_false_imp, strOf_toList, Decidable.not_not] at h44)
          · skip
            refine AW.skip ?_
            refine AQ.midI _ _ (⟨n == 35, by simp [h44], rfl, rfl⟩) (by repeat (first | exact envNil | refine envCons rfl ?_)) (by repeat (first | exact envNil | refine envCons rfl ?_)) (by repeat (exact subPnil))
          · skip
            refine AW.region ?_
            refine AO.op (O.eql rfl rfl rfl (by rfl)) rfl rfl rfl ?_
            refine AO.op (O.assign rfl rfl) rfl rfl rfl ?_
            refine AO.nil ?_
            refine AQ.midI _ _ (⟨n == 39, by rw [Bool.eq_iff_iff]; simp [h44], rfl, rfl⟩) (by repeat (first | exact envNil | refine envCons rfl ?_)) (by repeat (first | exact envNil | refine envCons rfl ?_)) (by repeat (exact subPnil))
          rintro E1 H1 ⟨c44, hc44, rfl, rfl⟩
          dsimp only [List.cons_append, List.nil_append]
          refine AQ.midI _ _ (⟨c44, by rw [hc44]; simp only [h43, false_or], rfl, rfl⟩) (by repeat (first | exact envNil | refine envCons rfl ?_)) (by repeat (first | exact envNil | refine envCons rfl ?_)) (by repeat (exact subPnil))
        rintro E1 H1 ⟨c43, hc43, rfl, rfl⟩
        dsimp only [List.cons_append, List.nil_append]
        refine AQ.midI _ _ (⟨c43, by rw [hc43]; simp only [h42, false_or], rfl, rfl⟩) (by repeat (first | exact envNil | refine envCons rfl ?_)) (by repeat (first | exact envNil | refine envCons rfl ?_)) (by repeat (exact subPnil))
      rintro E1 H1 ⟨c42, hc42, rfl, rfl⟩
      dsimp only [List.cons_append, List.nil_append]
      refine AQ.midI _ _ (⟨c42, by rw [hc42]; simp only [h41, false_or], rfl, rfl⟩) (by repeat (first | exact envNil | refine envCons rfl ?_)) (by repeat (first | exact envNil | refine envCons rfl ?_)) (by repeat (exact subPnil))
    rintro E1 H1 ⟨c41, hc41, rfl, rfl⟩
    dsimp only [List.cons_append, List.nil_append]
    refine AQ.midI _ _ (⟨c41, by rw [hc41]; simp only [h40, false_or], rfl, rfl⟩) (by repeat (first | exact envNil | refine envCons rfl ?_)) (by repeat (first | exact envNil | refine envCons rfl ?_)) (by repeat (exact subPnil))
  rintro E1 H1 ⟨c40, hc40, rfl, rfl⟩
  dsimp only [List.cons_append, List.nil_append]
  refine AQ.thenN ?_
  refine AW.split rfl (fun ha => ?_) (fun ha => ?_) <;> (try simp only [decide_eq_true_eq, decide_eq_false_iff_not, beq_iff_eq, beq_eq_false_iff_ne, bne_iff_ne, bne_eq_false_iff_eq, Bool.not_eq_true', Bool.not_eq_false', Bool.not_eq_true, Bool.not_eq_false, ne_eq, Int.not_lt, Int.not_le, Bool.and_eq_true, Bool.or_eq_true, Bool.or_eq_false_iff, Bool.and_eq_false_imp, strOf_toList, Decidable.not_not] at ha)
  · skip
    rw [hc40] at ha
    have e : cls n = 2 := if_pos (by simpa using ha)
    refine AW.seq ?_
    refine AW.region ?_
    refine AO.op (O.assign rfl rfl) rfl rfl rfl ?_
    refine AO.nil ?_
    refine AQ.thenN ?_
    refine AW.ret ?_
    refine AQ.blockR ?_
    refine AQ.thenR ?_
    refine AQ.ret1 rfl rfl ⟨_, List.nil_sublist _, .nil⟩ (⟨by rw [e]; rfl, rfl⟩)
  · skip
    rw [hc40] at ha
    refine AW.seq ?_
    refine AW.seq ?_
    refine AW.region ?_
    refine AO.op (O.eql rfl rfl rfl (by rfl)) rfl rfl rfl ?_
    refine AO.op (O.assign rfl rfl) rfl rfl rfl ?_
    refine AO.nil ?_
    refine AQ.thenN ?_
    refine AW.joinI [] (fun E H => ∃ (c110 : Bool), (c110 = decide (n = 6 ∨ n = 14 ∨ n = 23 ∨ n = 27 ∨ n = 28 ∨ n = 60 ∨ n = 252 ∨ n = 258 ∨ n = 292)) ∧ E = [(11, .val (.bool c110))] ∧ H = []) rfl (by repeat (exact envNil)) (fun h110 => ?_) (fun h110 => ?_) ?_ <;> try (try simp only [decide_eq_true_eq, decide_eq_false_iff_not, beq_iff_eq, beq_eq_false_iff_ne, bne_iff_ne, bne_eq_false_iff_eq, Bool.not_eq_true', Bool.not_eq_false', Bool.not_eq_true, Bool.not_eq_false, ne_eq, Int.not_lt, Int.not_le, Bool.and_eq_true, Bool.or_eq_true, Bool.or_eq_false_iff, Bool.and_eq_false_imp, strOf_toList, Decidable.not_not] at h110)
    · skip
      refine AW.skip ?_
      refine AQ.midI _ _ (⟨n == 6, by simp [h110], rfl, rfl⟩) (by repeat (exact envNil)) (by repeat (first | exact envNil | refine envCons rfl ?_)) (by repeat (exact subPnil))
    · skip
      refine AW.seq ?_
      refine AW.region ?_
      refine AO.op (O.eql rfl rfl rfl (by rfl)) rfl rfl rfl ?_
      refine AO.op (O.assign rfl rfl) rfl rfl rfl ?_
      refine AO.nil ?_
      refine AQ.thenN ?_
      refine AW.joinI [] (fun E H => ∃ (c111 : Bool), (c111 = decide (n = 14 ∨ n = 23 ∨ n = 27 ∨ n = 28 ∨ n = 60 ∨ n = 252 ∨ n = 258 ∨ n = 292)) ∧ E = [(11, .val (.bool c111))] ∧ H = []) rfl (by repeat (exact envNil)) (fun h111 => ?_) (fun h111 => ?_) ?_ <;> try (try simp only [decide_eq_true_eq, decide_eq_false_iff_not, beq_iff_eq, beq_eq_false_iff_ne, bne_iff_ne, bne_eq_false_iff_eq, Bool.not_eq_true', Bool.not_eq_false', Bool.not_eq_true, Bool.not_eq_false, ne_eq, Int.not_lt, Int.not_le, Bool.and_eq_true, Bool.or_eq_true, Bool.or_eq_false_iff, Bool.and_eq_false_imp, strOf_toList, Decidable.not_not] at h111)
      · skip
        refine AW.skip ?_
        refine AQ.midI _ _ (⟨n == 14, by simp [h111], rfl, rfl⟩) (by repeat (exact envNil)) (by repeat (first | exact envNil | refine envCons rfl ?_)) (by repeat (exact subPnil))
      · skip
        refine AW.seq ?_
        refine AW.region ?_
        refine AO.op (O.eql rfl rfl rfl (by rfl)) rfl rfl rfl ?_
        refine AO.op (O.assign rfl rfl) rfl rfl rfl ?_
        refine AO.nil ?_
        refine AQ.thenN ?_
        refine AW.joinI [] (fun E H => ∃ (c112 : Bool), (c112 = decide (n = 23 ∨ n = 27 ∨ n = 28 ∨ n = 60 ∨ n = 252 ∨ n = 258 ∨ n = 292)) ∧ E = [(11, .val (.bool c112))] ∧ H = []) rfl (by repeat (exact envNil)) (fun h112 => ?_) (fun h112 => ?_) ?_ <;> try (try simp only [decide_eq_true_eq, decide_eq_false_iff_not, beq_iff_eq, beq_eq_false_iff_ne, bne_iff_ne, bne_eq_false_iff_eq, Bool.not_eq_true', Bool.not_eq_false', Bool.not_eq_true, Bool.not_eq_false, ne_eq, Int.not_lt, Int.not_le, Bool.and_eq_true, Bool.or_eq_true, Bool.or_eq_false_iff, Bool.and_eq_false_imp, strOf_toList, Decidable.not_not] at h112)
        · skip
          refine AW.skip ?_
          refine AQ.midI _ _ (⟨n == 23, by simp [h112], rfl, rfl⟩) (by repeat (exact envNil)) (by repeat (first | exact envNil | refine envCons rfl ?_)) (by repeat (exact subPnil))
        · skip
          refine AW.seq ?_
          refine AW.region ?_
          refine AO.op (O.eql rfl rfl rfl (by rfl)) rfl rfl rfl ?_
          refine AO.op (O.assign rfl rfl) rfl rfl rfl ?_
          refine AO.nil ?_
          refine AQ.thenN ?_
          refine AW.joinI [] (fun E H => ∃ (c113 : Bool), (c113 = decide (n = 27 ∨ n = 28 ∨ n = 60 ∨ n = 252 ∨ n = 258 ∨ n = 292)) ∧ E = [(11, .val (.bool c113))] ∧ H = []) rfl (by repeat (exact envNil)) (fun h113 => ?_) (fun h113 => ?_) ?_ <;> try (try simp only [decide_eq_true_eq, decide_eq_false_iff_not, beq_iff_eq, beq_eq_false_iff_ne, bne_iff_ne, bne_eq_false_iff_eq, Bool.not_eq_true', Bool.not_eq_false', Bool.not_eq_true, Bool.not_eq_false, ne_eq, Int.not_lt, Int.not_le, Bool.and_eq_true, Bool.or_eq_true, Bool.or_eq_false_iff, Bool.and_eq_false_imp, strOf_toList, Decidable.not_not] at h113)
          · skip
            refine AW.skip ?_
            refine AQ.midI _ _ (⟨n == 27, by simp [h113], rfl, rfl⟩) (by repeat (exact envNil)) (by repeat (first | exact envNil | refine envCons rfl ?_)) (by repeat (exact subPnil))
          · skip
            refine AW.seq ?_
            refine AW.region ?_
            refine AO.op (O.eql rfl rfl rfl (by rfl)) rfl rfl rfl ?_
            refine AO.op (O.assign rfl rfl) rfl rfl rfl ?_
            refine AO.nil ?_
            refine AQ.thenN ?_
            refine AW.joinI [] (fun E H => ∃ (c114 : Bool), (c114 = decide (n = 28 ∨ n = 60 ∨ n = 252 ∨ n = 258 ∨ n = 292)) ∧ E = [(11, .val (.bool c114))] ∧ H = []) rfl (by repeat (exact envNil)) (fun h114 => ?_) (fun h114 => ?_) ?_ <;> try (try simp only [decide_eq_true_eq, decide_eq_false_iff_not, beq_iff_eq, beq_eq_false_iff_ne, bne_iff_ne, bne_eq_false_iff_eq, Bool.not_eq_true', Bool.not_eq_false', Bool.not_eq_true, Bool.not_eq_false, ne_eq, Int.not_lt, Int.not_le, Bool.and_eq_true, Bool.or_eq_true, Bool.or_eq_false_iff, Bool.and_eq_false_imp, strOf_toList, Decidable.not_not] at h114)
            · skip
              refine AW.skip ?_
              refine AQ.midI _ _ (⟨n == 28, by simp [h114], rfl, rfl⟩) (by repeat (exact envNil)) (by repeat (first | exact envNil | refine envCons rfl ?_)) (by repeat (exact subPnil))
            · skip
              refine AW.seq ?_
              refine AW.region ?_
              refine AO.op (O.eql rfl rfl rfl (by rfl)) rfl rfl rfl ?_
              refine AO.op (O.assign rfl rfl) rfl rfl rfl ?_
              refine AO.nil ?_
              refine AQ.thenN ?_
              refine AW.joinI [] (fun E H => ∃ (c115 : Bool), (c115 = decide (n = 60 ∨ n = 252 ∨ n = 258 ∨ n = 292)) ∧ E = [(11, .val (.bool c115))] ∧ H = []) rfl (by repeat (exact envNil)) (fun h115 => ?_) (fun h115 => ?_) ?_ <;> try (try simp only [decide_eq_true_eq, decide_eq_false_iff_not, beq_iff_eq, beq_eq_false_iff_ne, bne_iff_ne, bne_eq_false_iff_eq, Bool.not_eq_true', Bool.not_eq_false', Bool.not_eq_true, Bool.not_eq_false, ne_eq, Int.not_lt, Int.not_le, Bool.and_eq_true, Bool.or_eq_true, Bool.or_eq_false_iff, Bool.and_eq_false_imp, strOf_toList, Decidable.not_not] at h115)
              · skip
                refine AW.skip ?_
                refine AQ.midI _ _ (⟨n == 60, by simp [h115], rfl, rfl⟩) (by repeat (exact envNil)) (by repeat (first | exact envNil | refine envCons rfl ?_)) (by repeat (exact subPnil))
              · skip
                refine AW.seq ?_
                refine AW.region ?_
                refine AO.op (O.eql rfl rfl rfl (by rfl)) rfl rfl rfl ?_
                refine AO.op (O.assign rfl rfl) rfl rfl rfl ?_
                refine AO.nil ?_
                refine AQ.thenN ?_
                refine AW.joinI [] (fun E H => ∃ (c116 : Bool), (c116 = decide (n = 252 ∨ n = 258 ∨ n = 292)) ∧ E = [(11, .val (.bool c116))] ∧ H = []) rfl (by repeat (exact envNil)) (fun h116 => ?_) (fun h116 => ?_) ?_ <;> try (try simp only [decide_eq_true_eq, decide_eq_false_iff_not, beq_iff_eq, beq_eq_false_iff_ne, bne_iff_ne, bne_eq_false_iff_eq, Bool.not_eq_true', Bool.not_eq_false', Bool.not_eq_true, Bool.not_eq_false, ne_eq, Int.not_lt, Int.not_le, Bool.and_eq_true, Bool.or_eq_true, Bool.or_eq_false_iff, Bool.and_eq_false_imp, strOf_toList, Decidable.not_not] at h116)
                · skip
                  refine AW.skip ?_
                  refine AQ.midI _ _ (⟨n == 252, by simp [h116], rfl, rfl⟩) (by repeat (exact envNil)) (by repeat (first | exact envNil | refine envCons rfl ?_)) (by repeat (exact subPnil))
                · skip
                  refine AW.seq ?_
                  refine AW.region ?_
                  refine AO.op (O.eql rfl rfl rfl (by rfl)) rfl rfl rfl ?_
                  refine AO.op (O.assign rfl rfl) rfl rfl rfl ?_
                  refine AO.nil ?_
                  refine AQ.thenN ?_
                  refine AW.joinI [] (fun E H => ∃ (c117 : Bool), (c117 = decide (n = 258 ∨ n = 292)) ∧ E = [(11, .val (.bool c117))] ∧ H = []) rfl (by repeat (exact envNil)) (fun h117 => ?_) (fun h117 => ?_) ?_ <;> try (try simp only [decide_eq_true_eq, decide_eq_false_iff_not, beq_iff_eq, beq_eq_false_iff_ne, bne_iff_ne, bne_eq_false_iff_eq, Bool.not_eq_true', Bool.not_eq_false', Bool.not_eq_true, Bool.not_eq_false, ne_eq, Int.not_lt, Int.not_le, Bool.and_eq_true, Bool.or_eq_true, Bool.or_eq_false_iff, Bool.and_eq_false_imp, strOf_toList, Decidable.not_not] at h117)
                  · skip
                    refine AW.skip ?_
                    refine AQ.midI _ _ (⟨n == 258, by simp [h117], rfl, rfl⟩) (by repeat (exact envNil)) (by repeat (first | exact envNil | refine envCons rfl ?_)) (by repeat (exact subPnil))
                  · skip
                    refine AW.region ?_
                    refine AO.op (O.eql rfl rfl rfl (by rfl)) rfl rfl rfl ?_
                    refine AO.op (O.assign rfl rfl) rfl rfl rfl ?_
                    refine AO.nil ?_
                    refine AQ.midI _ _ (⟨n == 292, by rw [Bool.eq_iff_iff]; simp [h117], rfl, rfl⟩) (by repeat (exact envNil)) (by repeat (first | exact envNil | refine envCons rfl ?_)) (by repeat (exact subPnil))
                  rintro E1 H1 ⟨c117, hc117, rfl, rfl⟩
                  dsimp only [List.cons_append, List.nil_append]
                  refine AQ.midI _ _ (⟨c117, by rw [hc117]; simp only [h116, false_or], rfl, rfl⟩) (by repeat (exact envNil)) (by repeat (first | exact envNil | refine envCons rfl ?_)) (by repeat (exact subPnil))
                rintro E1 H1 ⟨c116, hc116, rfl, rfl⟩
                dsimp only [List.cons_append, List.nil_append]
                refine AQ.midI _ _ (⟨c116, by rw [hc116]; simp only [h115, false_or], rfl, rfl⟩) (by repeat (exact envNil)) (by repeat (first | exact envNil | refine envCons rfl ?_)) (by repeat (exact subPnil))
              rintro E1 H1 ⟨c115, hc115, rfl, rfl⟩
              dsimp only [List.cons_append, List.nil_append]
              refine AQ.midI _ _ (⟨c115, by rw [hc115]; simp only [h114, false_or], rfl, rfl⟩) (by repeat (exact envNil)) (by repeat (first | exact envNil | refine envCons rfl ?_)) (by repeat (exact subPnil))
            rintro E1 H1 ⟨c114, hc114, rfl, rfl⟩
            dsimp only [List.cons_append, List.nil_append]
            refine AQ.midI _ _ (⟨c114, by rw [hc114]; simp only [h113, false_or], rfl, rfl⟩) (by repeat (exact envNil)) (by repeat (first | exact envNil | refine envCons rfl ?_)) (by repeat (exact subPnil))
          rintro E1 H1 ⟨c113, hc113, rfl, rfl⟩
          dsimp only [List.cons_append, List.nil_append]
          refine AQ.midI _ _ (⟨c113, by rw [hc113]; simp only [h112, false_or], rfl, rfl⟩) (by repeat (exact envNil)) (by repeat (first | exact envNil | refine envCons rfl ?_)) (by repeat (exact subPnil))
        rintro E1 H1 ⟨c112, hc112, rfl, rfl⟩
        dsimp only [List.cons_append, List.nil_append]
        refine AQ.midI _ _ (⟨c112, by rw [hc112]; simp only [h111, false_or], rfl, rfl⟩) (by repeat (exact envNil)) (by repeat (first | exact envNil | refine envCons rfl ?_)) (by repeat (exact subPnil))
      rintro E1 H1 ⟨c111, hc111, rfl, rfl⟩
      dsimp only [List.cons_append, List.nil_append]
      refine AQ.midI _ _ (⟨c111, by rw [hc111]; simp only [h110, false_or], rfl, rfl⟩) (by repeat (exact envNil)) (by repeat (first | exact envNil | refine envCons rfl ?_)) (by repeat (exact subPnil))
    rintro E1 H1 ⟨c110, hc110, rfl, rfl⟩
    dsimp only [List.cons_append, List.nil_append]
    refine AQ.thenN ?_
    refine AW.split rfl (fun hb => ?_) (fun hb => ?_) <;> (try simp only [decide_eq_true_eq, decide_eq_false_iff_not, beq_iff_eq, beq_eq_false_iff_ne, bne_iff_ne, bne_eq_false_iff_eq, Bool.not_eq_true', Bool.not_eq_false', Bool.not_eq_true, Bool.not_eq_false, ne_eq, Int.not_lt, Int.not_le, Bool.and_eq_true, Bool.or_eq_true, Bool.or_eq_false_iff, Bool.and_eq_false_imp, strOf_toList, Decidable.not_not] at hb)
    · skip
      rw [hc110] at hb
      have e : cls n = 3 := (if_neg (by simpa using ha)).trans (if_pos (by simpa using hb))
      refine AW.seq ?_
      refine AW.region ?_
      refine AO.op (O.assign rfl rfl) rfl rfl rfl ?_
      refine AO.nil ?_
      refine AQ.thenN ?_
      refine AW.ret ?_
      refine AQ.blockR ?_
      refine AQ.thenR ?_
      refine AQ.ret1 rfl rfl ⟨_, List.nil_sublist _, .nil⟩ (⟨by rw [e]; rfl, rfl⟩)
    · skip
      rw [hc110] at hb
      have e : cls n = 1 := (if_neg (by simpa using ha)).trans (if_neg (by simpa using hb))
      refine AW.skip ?_
      refine AQ.blockN ?_
      refine AQ.thenN ?_
      refine AW.seq ?_
      refine AW.region ?_
      refine AO.op (O.assign rfl rfl) rfl rfl rfl ?_
      refine AO.nil ?_
      refine AQ.thenN ?_
      refine AW.ret ?_
      refine AQ.ret1 rfl rfl ⟨_, List.nil_sublist _, .nil⟩ (⟨by rw [e]; rfl, rfl⟩)
theorem rclass_fn (n : Int) : Sp Try.prog 10 [.val (.int .i64 n)] [] (Is (.val (.int .i64 (cls n)))) := by
  refine Sp.enter Try.func10 rfl _ Try.ntmps10 rfl (fun w0 R0 => ?_)
  refine AW.seq ?_
  refine AW.region ?_
  refine AO.op (O.assign rfl rfl) rfl rfl rfl ?_
  refine AO.nil ?_
  refine AQ.thenN ?_
  refine AW.seq ?_
  refine AW.seq ?_
  refine AW.region ?_
  refine AO.op (O.move rfl rfl) rfl rfl rfl ?_
  refine AO.nil ?_
  refine AQ.thenN ?_
  refine AW.block ?_
  refine AW.seq ?_
  refine AW.seq ?_
  refine AW.region ?_
  refine AO.op (O.eql rfl rfl rfl (by rfl)) rfl rfl rfl ?_
  refine AO.op (O.assign rfl rfl) rfl rfl rfl ?_
  refine AO.nil ?_
  refine AQ.thenN ?_
  refine AW.joinI [(3, _)] (fun E H => ∃ (c40 : Bool), (c40 = decide (n = 3 ∨ n = 7 ∨ n = 9 ∨ n = 16 ∨ n = 35 ∨ n = 39)) ∧ E = [(4, .val (.bool c40))] ∧ H = []) rfl (by repeat (first | exact envNil | refine envCons rfl ?_)) (fun h40 => ?_) (fun h40 => ?_) ?_ <;> try (try simp only [decide_eq_true_eq, decide_eq_false_iff_not, beq_iff_eq, beq_eq_false_iff_ne, bne_iff_ne, bne_eq_false_iff_eq, Bool.not_eq_true', Bool.not_eq_false', Bool.not_eq_true, Bool.not_eq_false, ne_eq, Int.not_lt, Int.not_le, Bool.and_eq_true, Bool.or_eq_true, Bool.or_eq_false_iff, Bool.and_eq_false_imp, strOf_toList, Decidable.not_not] at h40)
  · skip
    refine AW.skip ?_
    refine AQ.midI _ _ (⟨n == 3, by simp [h40], rfl, rfl⟩) (by repeat (first | exact envNil | refine envCons rfl ?_)) (by repeat (first | exact envNil | refine envCons rfl ?_)) (by repeat (exact subPnil))
  · skip
    refine AW.seq ?_
    refine AW.region ?_
    refine AO.op (O.eql rfl rfl rfl (by rfl)) rfl rfl rfl ?_
    refine AO.op (O.assign rfl rfl) rfl rfl rfl ?_
    refine AO.nil ?_
    refine AQ.thenN ?_
    refine AW.joinI [(3, _)] (fun E H => ∃ (c41 : Bool), (c41 = decide (n = 7 ∨ n = 9 ∨ n = 16 ∨ n = 35 ∨ n = 39)) ∧ E = [(4, .val (.bool c41))] ∧ H = []) rfl (by repeat (first | exact envNil | refine envCons rfl ?_)) (fun h41 => ?_) (fun h41 => ?_) ?_ <;> try (try simp only [decide_eq_true_eq, decide_eq_false_iff_not, beq_iff_eq, beq_eq_false_iff_ne, bne_iff_ne, bne_eq_false_iff_eq, Bool.not_eq_true', Bool.not_eq_false', Bool.not_eq_true, Bool.not_eq_false, ne_eq, Int.not_lt, Int.not_le, Bool.and_eq_true, Bool.or_eq_true, Bool.or_eq_false_iff, Bool.and_eq_false_imp, strOf_toList, Decidable.not_not] at h41)
    · skip
      refine AW.skip ?_
      refine AQ.midI _ _ (⟨n == 7, by simp [h41], rfl, rfl⟩) (by repeat (first | exact envNil | refine envCons rfl ?_)) (by repeat (first | exact envNil | refine envCons rfl ?_)) (by repeat (exact subPnil))
    · skip
      refine AW.seq ?_
      refine AW.region ?_
      refine AO.op (O.eql rfl rfl rfl (by rfl)) rfl rfl rfl ?_
      refine AO.op (O.assign rfl rfl) rfl rfl rfl ?_
      refine AO.nil ?_
      refine AQ.thenN ?_
      refine AW.joinI [(3, _)] (fun E H => ∃ (c42 : Bool), (c42 = decide (n = 9 ∨ n = 16 ∨ n = 35 ∨ n = 39)) ∧ E = [(4, .val (.bool c42))] ∧ H = []) rfl (by repeat (first | exact envNil | refine envCons rfl ?_)) (fun h42 => ?_) (fun h42 => ?_) ?_ <;> try (try simp only [decide_eq_true_eq, decide_eq_false_iff_not, beq_iff_eq, beq_eq_false_iff_ne, bne_iff_ne, bne_eq_false_iff_eq, Bool.not_eq_true', Bool.not_eq_false', Bool.not_eq_true, Bool.not_eq_false, ne_eq, Int.not_lt, Int.not_le, Bool.and_eq_true, Bool.or_eq_true, Bool.or_eq_false_iff, Bool.and_eq_false_imp, strOf_toList, Decidable.not_not] at h42)
      · skip
        refine AW.skip ?_
        refine AQ.midI _ _ (⟨n == 9, by simp [h42], rfl, rfl⟩) (by repeat (first | exact envNil | refine envCons rfl ?_)) (by repeat (first | exact envNil | refine envCons rfl ?_)) (by repeat (exact subPnil))
      · skip
        refine AW.seq ?_
        refine AW.region ?_
        refine AO.op (O.eql rfl rfl rfl (by rfl)) rfl rfl rfl ?_
        refine AO.op (O.assign rfl rfl) rfl rfl rfl ?_
        refine AO.nil ?_
        refine AQ.thenN ?_
        refine AW.joinI [(3, _)] (fun E H => ∃ (c43 : Bool), (c43 = decide (n = 16 ∨ n = 35 ∨ n = 39)) ∧ E = [(4, .val (.bool c43))] ∧ H = []) rfl (by repeat (first | exact envNil | refine envCons rfl ?_)) (fun h43 => ?_) (fun h43 => ?_) ?_ <;> try (try simp only [decide_eq_true_eq, decide_eq_false_iff_not, beq_iff_eq, beq_eq_false_iff_ne, bne_iff_ne, bne_eq_false_iff_eq, Bool.not_eq_true', Bool.not_eq_false', Bool.not_eq_true, Bool.not_eq_false, ne_eq, Int.not_lt, Int.not_le, Bool.and_eq_true, Bool.or_eq_true, Bool.or_eq_false_iff, Bool.and_eq_false_imp, strOf_toList, Decidable.not_not] at h43)
        · skip
          refine AW.skip ?_
          refine AQ.midI _ _ (⟨n == 16, by simp [h43], rfl, rfl⟩) (by repeat (first | exact envNil | refine envCons rfl ?_)) (by repeat (first | exact envNil | refine envCons rfl ?_)) (by repeat (exact subPnil))
        · skip
          refine AW.seq ?_
          refine AW.region ?_
          refine AO.op (O.eql rfl rfl rfl (by rfl)) rfl rfl rfl ?_
          refine AO.op (O.assign rfl rfl) rfl rfl rfl ?_
          refine AO.nil ?_
          refine AQ.thenN ?_
          refine AW.joinI [(3, _)] (fun E H => ∃ (c44 : Bool), (c44 = decide (n = 35 ∨ n = 39)) ∧ E = [(4, .val (.bool c44))] ∧ H = []) rfl (by repeat (first | exact envNil | refine envCons rfl ?_)) (fun h44 => ?_) (fun h44 => ?_) ?_ <;> try (try simp only [decide_eq_true_eq, decide_eq_false_iff_not, beq_iff_eq, beq_eq_false_iff_ne, bne_iff_ne, bne_eq_false_iff_eq, Bool.not_eq_true', Bool.not_eq_false', Bool.not_eq_true, Bool.not_eq_false, ne_eq, Int.not_lt, Int.not_le, Bool.and_eq_true, Bool.or_eq_true, Bool.or_eq_false_iff, Bool.and_eq_false_imp, strOf_toList, Decidable.not_not] at h44)
          · skip
            refine AW.skip ?_
            refine AQ.midI _ _ (⟨n == 35, by simp [h44], rfl, rfl⟩) (by repeat (first | exact envNil | refine envCons rfl ?_)) (by repeat (first | exact envNil | refine envCons rfl ?_)) (by repeat (exact subPnil))
          · skip
            refine AW.region ?_
            refine AO.op (O.eql rfl rfl rfl (by rfl)) rfl rfl rfl ?_
            refine AO.op (O.assign rfl rfl) rfl rfl rfl ?_
            refine AO.nil ?_
            refine AQ.midI _ _ (⟨n == 39, by rw [Bool.eq_iff_iff]; simp [h44], rfl, rfl⟩) (by repeat (first | exact envNil | refine envCons rfl ?_)) (by repeat (first | exact envNil | refine envCons rfl ?_)) (by repeat (exact subPnil))
          rintro E1 H1 ⟨c44, hc44, rfl, rfl⟩
          dsimp only [List.cons_append, List.nil_append]
          refine AQ.midI _ _ (⟨c44, by rw [hc44]; simp only [h43, false_or], rfl, rfl⟩) (by repeat (first | exact envNil | refine envCons rfl ?_)) (by repeat (first | exact envNil | refine envCons rfl ?_)) (by repeat (exact subPnil))
        rintro E1 H1 ⟨c43, hc43, rfl, rfl⟩
        dsimp only [List.cons_append, List.nil_append]
        refine AQ.midI _ _ (⟨c43, by rw [hc43]; simp only [h42, false_or], rfl, rfl⟩) (by repeat (first | exact envNil | refine envCons rfl ?_)) (by repeat (first | exact envNil | refine envCons rfl ?_)) (by repeat (exact subPnil))
      rintro E1 H1 ⟨c42, hc42, rfl, rfl⟩
      dsimp only [List.cons_append, List.nil_append]
      refine AQ.midI _ _ (⟨c42, by rw [hc42]; simp only [h41, false_or], rfl, rfl⟩) (by repeat (first | exact envNil | refine envCons rfl ?_)) (by repeat (first | exact envNil | refine envCons rfl ?_)) (by repeat (exact subPnil))
    rintro E1 H1 ⟨c41, hc41, rfl, rfl⟩
    dsimp only [List.cons_append, List.nil_append]
    refine AQ.midI _ _ (⟨c41, by rw [hc41]; simp only [h40, false_or], rfl, rfl⟩) (by repeat (first | exact envNil | refine envCons rfl ?_)) (by repeat (first | exact envNil | refine envCons rfl ?_)) (by repeat (exact subPnil))
  rintro E1 H1 ⟨c40, hc40, rfl, rfl⟩
  dsimp only [List.cons_append, List.nil_append]
  refine AQ.thenN ?_
  refine AW.split rfl (fun ha => ?_) (fun ha => ?_) <;> (try simp only [decide_eq_true_eq, decide_eq_false_iff_not, beq_iff_eq, beq_eq_false_iff_ne, bne_iff_ne, bne_eq_false_iff_eq, Bool.not_eq_true', Bool.not_eq_false', Bool.not_eq_true, Bool.not_eq_false, ne_eq, Int.not_lt, Int.not_le, Bool.and_eq_true, Bool.or_eq_true, Bool.or_eq_false_iff, Bool.and_eq_false_imp, strOf_toList, Decidable.not_not] at ha)
  · skip
    rw [hc40] at ha
    have e : cls n = 2 := if_pos (by simpa using ha)
    refine AW.seq ?_
    refine AW.region ?_
    refine AO.op (O.assign rfl rfl) rfl rfl rfl ?_
    refine AO.nil ?_
    refine AQ.thenN ?_
    refine AW.ret ?_
    refine AQ.blockR ?_
    refine AQ.thenR ?_
    refine AQ.ret1 rfl rfl ⟨_, List.nil_sublist _, .nil⟩ (⟨by rw [e]; rfl, rfl⟩)
  · skip
    rw [hc40] at ha
    refine AW.seq ?_
    refine AW.seq ?_
    refine AW.region ?_
    refine AO.op (O.eql rfl rfl rfl (by rfl)) rfl rfl rfl ?_
    refine AO.op (O.assign rfl rfl) rfl rfl rfl ?_
    refine AO.nil ?_
    refine AQ.thenN ?_
    refine AW.joinI [] (fun E H => ∃ (c110 : Bool), (c110 = decide (n = 6 ∨ n = 14 ∨ n = 23 ∨ n = 27 ∨ n = 28 ∨ n = 60 ∨ n = 252 ∨ n = 258 ∨ n = 292)) ∧ E = [(11, .val (.bool c110))] ∧ H = []) rfl (by repeat (exact envNil)) (fun h110 => ?_) (fun h110 => ?_) ?_ <;> try (try simp only [decide_eq_true_eq, decide_eq_false_iff_not, beq_iff_eq, beq_eq_false_iff_ne, bne_iff_ne, bne_eq_false_iff_eq, Bool.not_eq_true', Bool.not_eq_false', Bool.not_eq_true, Bool.not_eq_false, ne_eq, Int.not_lt, Int.not_le, Bool.and_eq_true, Bool.or_eq_true, Bool.or_eq_false_iff, Bool.and_eq_false_imp, strOf_toList, Decidable.not_not] at h110)
    · skip
      refine AW.skip ?_
      refine AQ.midI _ _ (⟨n == 6, by simp [h110], rfl, rfl⟩) (by repeat (exact envNil)) (by repeat (first | exact envNil | refine envCons rfl ?_)) (by repeat (exact subPnil))
    · skip
      refine AW.seq ?_
      refine AW.region ?_
      refine AO.op (O.eql rfl rfl rfl (by rfl)) rfl rfl rfl ?_
      refine AO.op (O.assign rfl rfl) rfl rfl rfl ?_
      refine AO.nil ?_
      refine AQ.thenN ?_
      refine AW.joinI [] (fun E H => ∃ (c111 : Bool), (c111 = decide (n = 14 ∨ n = 23 ∨ n = 27 ∨ n = 28 ∨ n = 60 ∨ n = 252 ∨ n = 258 ∨ n = 292)) ∧ E = [(11, .val (.bool c111))] ∧ H = []) rfl (by repeat (exact envNil)) (fun h111 => ?_) (fun h111 => ?_) ?_ <;> try (try simp only [decide_eq_true_eq, decide_eq_false_iff_not, beq_iff_eq, beq_eq_false_iff_ne, bne_iff_ne, bne_eq_false_iff_eq, Bool.not_eq_true', Bool.not_eq_false', Bool.not_eq_true, Bool.not_eq_false, ne_eq, Int.not_lt, Int.not_le, Bool.and_eq_true, Bool.or_eq_true, Bool.or_eq_false_iff, Bool.and_eq_false_imp, strOf_toList, Decidable.not_not] at h111)
      · skip
        refine AW.skip ?_
        refine AQ.midI _ _ (⟨n == 14, by simp [h111], rfl, rfl⟩) (by repeat (exact envNil)) (by repeat (first | exact envNil | refine envCons rfl ?_)) (by repeat (exact subPnil))
      · skip
        refine AW.seq ?_
        refine AW.region ?_
        refine AO.op (O.eql rfl rfl rfl (by rfl)) rfl rfl rfl ?_
        refine AO.op (O.assign rfl rfl) rfl rfl rfl ?_
        refine AO.nil ?_
        refine AQ.thenN ?_
        refine AW.joinI [] (fun E H => ∃ (c112 : Bool), (c112 = decide (n = 23 ∨ n = 27 ∨ n = 28 ∨ n = 60 ∨ n = 252 ∨ n = 258 ∨ n = 292)) ∧ E = [(11, .val (.bool c112))] ∧ H = []) rfl (by repeat (exact envNil)) (fun h112 => ?_) (fun h112 => ?_) ?_ <;> try (try simp only [decide_eq_true_eq, decide_eq_false_iff_not, beq_iff_eq, beq_eq_false_iff_ne, bne_iff_ne, bne_eq_false_iff_eq, Bool.not_eq_true', Bool.not_eq_false', Bool.not_eq_true, Bool.not_eq_false, ne_eq, Int.not_lt, Int.not_le, Bool.and_eq_true, Bool.or_eq_true, Bool.or_eq_false_iff, Bool.and_eq_false_imp, strOf_toList, Decidable.not_not] at h112)
        · skip
          refine AW.skip ?_
          refine AQ.midI _ _ (⟨n == 23, by simp [h112], rfl, rfl⟩) (by repeat (exact envNil)) (by repeat (first | exact envNil | refine envCons rfl ?_)) (by repeat (exact subPnil))
        · skip
          refine AW.seq ?_
          refine AW.region ?_
          refine AO.op (O.eql rfl rfl rfl (by rfl)) rfl rfl rfl ?_
          refine AO.op (O.assign rfl rfl) rfl rfl rfl ?_
          refine AO.nil ?_
          refine AQ.thenN ?_
          refine AW.joinI [] (fun E H => ∃ (c113 : Bool), (c113 = decide (n = 27 ∨ n = 28 ∨ n = 60 ∨ n = 252 ∨ n = 258 ∨ n = 292)) ∧ E = [(11, .val (.bool c113))] ∧ H = []) rfl (by repeat (exact envNil)) (fun h113 => ?_) (fun h113 => ?_) ?_ <;> try (try simp only [decide_eq_true_eq, decide_eq_false_iff_not, beq_iff_eq, beq_eq_false_iff_ne, bne_iff_ne, bne_eq_false_iff_eq, Bool.not_eq_true', Bool.not_eq_false', Bool.not_eq_true, Bool.not_eq_false, ne_eq, Int.not_lt, Int.not_le, Bool.and_eq_true, Bool.or_eq_true, Bool.or_eq_false_iff, Bool.and_eq_false_imp, strOf_toList, Decidable.not_not] at h113)
          · skip
            refine AW.skip ?_
            refine AQ.midI _ _ (⟨n == 27, by simp [h113], rfl, rfl⟩) (by repeat (exact envNil)) (by repeat (first | exact envNil | refine envCons rfl ?_)) (by repeat (exact subPnil))
          · skip
            refine AW.seq ?_
            refine AW.region ?_
            refine AO.op (O.eql rfl rfl rfl (by rfl)) rfl rfl rfl ?_
            refine AO.op (O.assign rfl rfl) rfl rfl rfl ?_
            refine AO.nil ?_
            refine AQ.thenN ?_
            refine AW.joinI [] (fun E H => ∃ (c114 : Bool), (c114 = decide (n = 28 ∨ n = 60 ∨ n = 252 ∨ n = 258 ∨ n = 292)) ∧ E = [(11, .val (.bool c114))] ∧ H = []) rfl (by repeat (exact envNil)) (fun h114 => ?_) (fun h114 => ?_) ?_ <;> try (try simp only [decide_eq_true_eq, decide_eq_false_iff_not, beq_iff_eq, beq_eq_false_iff_ne, bne_iff_ne, bne_eq_false_iff_eq, Bool.not_eq_true', Bool.not_eq_false', Bool.not_eq_true, Bool.not_eq_false, ne_eq, Int.not_lt, Int.not_le, Bool.and_eq_true, Bool.or_eq_true, Bool.or_eq_false_iff, Bool.and_eq_false_imp, strOf_toList, Decidable.not_not] at h114)
            · skip
              refine AW.skip ?_
              refine AQ.midI _ _ (⟨n == 28, by simp [h114], rfl, rfl⟩) (by repeat (exact envNil)) (by repeat (first | exact envNil | refine envCons rfl ?_)) (by repeat (exact subPnil))
            · skip
              refine AW.seq ?_
              refine AW.region ?_
              refine AO.op (O.eql rfl rfl rfl (by rfl)) rfl rfl rfl ?_
              refine AO.op (O.assign rfl rfl) rfl rfl rfl ?_
              refine AO.nil ?_
              refine AQ.thenN ?_
              refine AW.joinI [] (fun E H => ∃ (c115 : Bool), (c115 = decide (n = 60 ∨ n = 252 ∨ n = 258 ∨ n = 292)) ∧ E = [(11, .val (.bool c115))] ∧ H = []) rfl (by repeat (exact envNil)) (fun h115 => ?_) (fun h115 => ?_) ?_ <;> try (try simp only [decide_eq_true_eq, decide_eq_false_iff_not, beq_iff_eq, beq_eq_false_iff_ne, bne_iff_ne, bne_eq_false_iff_eq, Bool.not_eq_true', Bool.not_eq_false', Bool.not_eq_true, Bool.not_eq_false, ne_eq, Int.not_lt, Int.not_le, Bool.and_eq_true, Bool.or_eq_true, Bool.or_eq_false_iff, Bool.and_eq_false_imp, strOf_toList, Decidable.not_not] at h115)
              · skip
                refine AW.skip ?_
                refine AQ.midI _ _ (⟨n == 60, by simp [h115], rfl, rfl⟩) (by repeat (exact envNil)) (by repeat (first | exact envNil | refine envCons rfl ?_)) (by repeat (exact subPnil))
              · skip
                refine AW.seq ?_
                refine AW.region ?_
                refine AO.op (O.eql rfl rfl rfl (by rfl)) rfl rfl rfl ?_
                refine AO.op (O.assign rfl rfl) rfl rfl rfl ?_
                refine AO.nil ?_
                refine AQ.thenN ?_
                refine AW.joinI [] (fun E H => ∃ (c116 : Bool), (c116 = decide (n = 252 ∨ n = 258 ∨ n = 292)) ∧ E = [(11, .val (.bool c116))] ∧ H = []) rfl (by repeat (exact envNil)) (fun h116 => ?_) (fun h116 => ?_) ?_ <;> try (try simp only [decide_eq_true_eq, decide_eq_false_iff_not, beq_iff_eq, beq_eq_false_iff_ne, bne_iff_ne, bne_eq_false_iff_eq, Bool.not_eq_true', Bool.not_eq_false', Bool.not_eq_true, Bool.not_eq_false, ne_eq, Int.not_lt, Int.not_le, Bool.and_eq_true, Bool.or_eq_true, Bool.or_eq_false_iff, Bool.and_eq_false_imp, strOf_toList, Decidable.not_not] at h116)
                · skip
                  refine AW.skip ?_
                  refine AQ.midI _ _ (⟨n == 252, by simp [h116], rfl, rfl⟩) (by repeat (exact envNil)) (by repeat (first | exact envNil | refine envCons rfl ?_)) (by repeat (exact subPnil))
                · skip
                  refine AW.seq ?_
                  refine AW.region ?_
                  refine AO.op (O.eql rfl rfl rfl (by rfl)) rfl rfl rfl ?_
                  refine AO.op (O.assign rfl rfl) rfl rfl rfl ?_
                  refine AO.nil ?_
                  refine AQ.thenN ?_
                  refine AW.joinI [] (fun E H => ∃ (c117 : Bool), (c117 = decide (n = 258 ∨ n = 292)) ∧ E = [(11, .val (.bool c117))] ∧ H = []) rfl (by repeat (exact envNil)) (fun h117 => ?_) (fun h117 => ?_) ?_ <;> try (try simp only [decide_eq_true_eq, decide_eq_false_iff_not, beq_iff_eq, beq_eq_false_iff_ne, bne_iff_ne, bne_eq_false_iff_eq, Bool.not_eq_true', Bool.not_eq_false', Bool.not_eq_true, Bool.not_eq_false, ne_eq, Int.not_lt, Int.not_le, Bool.and_eq_true, Bool.or_eq_true, Bool.or_eq_false_iff, Bool.and_eq_false_imp, strOf_toList, Decidable.not_not] at h117)
                  · skip
                    refine AW.skip ?_
                    refine AQ.midI _ _ (⟨n == 258, by simp [h117], rfl, rfl⟩) (by repeat (exact envNil)) (by repeat (first | exact envNil | refine envCons rfl ?_)) (by repeat (exact subPnil))
                  · skip
                    refine AW.region ?_
                    refine AO.op (O.eql rfl rfl rfl (by rfl)) rfl rfl rfl ?_
                    refine AO.op (O.assign rfl rfl) rfl rfl rfl ?_
                    refine AO.nil ?_
                    refine AQ.midI _ _ (⟨n == 292, by rw [Bool.eq_iff_iff]; simp [h117], rfl, rfl⟩) (by repeat (exact envNil)) (by repeat (first | exact envNil | refine envCons rfl ?_)) (by repeat (exact subPnil))
                  rintro E1 H1 ⟨c117, hc117, rfl, rfl⟩
                  dsimp only [List.cons_append, List.nil_append]
                  refine AQ.midI _ _ (⟨c117, by rw [hc117]; simp only [h116, false_or], rfl, rfl⟩) (by repeat (exact envNil)) (by repeat (first | exact envNil | refine envCons rfl ?_)) (by repeat (exact subPnil))
                rintro E1 H1 ⟨c116, hc116, rfl, rfl⟩
                dsimp only [List.cons_append, List.nil_append]
                refine AQ.midI _ _ (⟨c116, by rw [hc116]; simp only [h115, false_or], rfl, rfl⟩) (by repeat (exact envNil)) (by repeat (first | exact envNil | refine envCons rfl ?_)) (by repeat (exact subPnil))
              rintro E1 H1 ⟨c115, hc115, rfl, rfl⟩
              dsimp only [List.cons_append, List.nil_append]
              refine AQ.midI _ _ (⟨c115, by rw [hc115]; simp only [h114, false_or], rfl, rfl⟩) (by repeat (exact envNil)) (by repeat (first | exact envNil | refine envCons rfl ?_)) (by repeat (exact subPnil))
            rintro E1 H1 ⟨c114, hc114, rfl, rfl⟩
            dsimp only [List.cons_append, List.nil_append]
            refine AQ.midI _ _ (⟨c114, by rw [hc114]; simp only [h113, false_or], rfl, rfl⟩) (by repeat (exact envNil)) (by repeat (first | exact envNil | refine envCons rfl ?_)) (by repeat (exact subPnil))
          rintro E1 H1 ⟨c113, hc113, rfl, rfl⟩
          dsimp only [List.cons_append, List.nil_append]
          refine AQ.midI _ _ (⟨c113, by rw [hc113]; simp only [h112, false_or], rfl, rfl⟩) (by repeat (exact envNil)) (by repeat (first | exact envNil | refine envCons rfl ?_)) (by repeat (exact subPnil))
        rintro E1 H1 ⟨c112, hc112, rfl, rfl⟩
        dsimp only [List.cons_append, List.nil_append]
        refine AQ.midI _ _ (⟨c112, by rw [hc112]; simp only [h111, false_or], rfl, rfl⟩) (by repeat (exact envNil)) (by repeat (first | exact envNil | refine envCons rfl ?_)) (by repeat (exact subPnil))
      rintro E1 H1 ⟨c111, hc111, rfl, rfl⟩
      dsimp only [List.cons_append, List.nil_append]
      refine AQ.midI _ _ (⟨c111, by rw [hc111]; simp only [h110, false_or], rfl, rfl⟩) (by repeat (exact envNil)) (by repeat (first | exact envNil | refine envCons rfl ?_)) (by repeat (exact subPnil))
    rintro E1 H1 ⟨c110, hc110, rfl, rfl⟩
    dsimp only [List.cons_append, List.nil_append]
    refine AQ.thenN ?_
    refine AW.split rfl (fun hb => ?_) (fun hb => ?_) <;> (try simp only [decide_eq_true_eq, decide_eq_false_iff_not, beq_iff_eq, beq_eq_false_iff_ne, bne_iff_ne, bne_eq_false_iff_eq, Bool.not_eq_true', Bool.not_eq_false', Bool.not_eq_true, Bool.not_eq_false, ne_eq, Int.not_lt, Int.not_le, Bool.and_eq_true, Bool.or_eq_true, Bool.or_eq_false_iff, Bool.and_eq_false_imp, strOf_toList, Decidable.not_not] at hb)
    · skip
      rw [hc110] at hb
      have e : cls n = 3 := (if_neg (by simpa using ha)).trans (if_pos (by simpa using hb))
      refine AW.seq ?_
      refine AW.region ?_
      refine AO.op (O.assign rfl rfl) rfl rfl rfl ?_
      refine AO.nil ?_
      refine AQ.thenN ?_
      refine AW.ret ?_
      refine AQ.blockR ?_
      refine AQ.thenR ?_
      refine AQ.ret1 rfl rfl ⟨_, List.nil_sublist _, .nil⟩ (⟨by rw [e]; rfl, rfl⟩)
    · skip
      rw [hc110] at hb
      have e : cls n = 1 := (if_neg (by simpa using ha)).trans (if_neg (by simpa using hb))
      refine AW.skip ?_
      refine AQ.blockN ?_
      refine AQ.thenN ?_
      refine AW.seq ?_
      refine AW.region ?_
      refine AO.op (O.assign rfl rfl) rfl rfl rfl ?_
      refine AO.nil ?_
      refine AQ.thenN ?_
      refine AW.ret ?_
      refine AQ.ret1 rfl rfl ⟨_, List.nil_sublist _, .nil⟩ (⟨by rw [e]; rfl, rfl⟩)
def rq (c : Int) : Bool := decide (1 ≤ c) && decide (c ≤ 31)
def rs (c : Int) : Bool := decide (64 ≤ c)
theorem sreq_fn (c : Int) : Sp Try.prog 42 [.val (.int .i64 c)] [] (Is (.val (.bool (rq c)))) := by
  refine Sp.enter Try.func42 rfl _ Try.ntmps42 rfl (fun w0 R0 => ?_)
  refine AW.seq ?_
  refine AW.region ?_
  refine AO.op (O.assign rfl rfl) rfl rfl rfl ?_
  refine AO.nil ?_
  refine AQ.thenN ?_
  refine AW.seq ?_
  refine AW.region ?_
  refine AO.op (O.move rfl rfl) rfl rfl rfl ?_
  refine AO.op (O.geq rfl rfl rfl (by rfl)) rfl rfl rfl ?_
  refine AO.op (O.move rfl rfl) rfl rfl rfl ?_
  refine AO.opG rfl rfl rfl (fun hp => O.move rfl rfl) ?_
  refine AO.opG rfl rfl rfl (fun hp => OpW.force 6 rfl (by exact hp) (O.leq rfl rfl rfl (by rfl))) ?_
  refine AO.op (O.pickAnd rfl rfl rfl rfl (fun h => by exact h)) rfl rfl rfl ?_
  refine AO.op (O.assign rfl rfl) rfl rfl rfl ?_
  refine AO.nil ?_
  refine AQ.thenN ?_
  refine AW.ret ?_
  refine AQ.ret1 rfl rfl ⟨_, List.nil_sublist _, .nil⟩ (⟨rfl, rfl⟩)
theorem rsreq_fn (c : Int) : Sp Try.prog 45 [.val (.int .i64 c)] [] (Is (.val (.bool (rq c)))) := by
  refine Sp.enter Try.func45 rfl _ Try.ntmps45 rfl (fun w0 R0 => ?_)
  refine AW.seq ?_
  refine AW.region ?_
  refine AO.op (O.assign rfl rfl) rfl rfl rfl ?_
  refine AO.nil ?_
  refine AQ.thenN ?_
  refine AW.seq ?_
  refine AW.region ?_
  refine AO.op (O.move rfl rfl) rfl rfl rfl ?_
  refine AO.op (O.geq rfl rfl rfl (by rfl)) rfl rfl rfl ?_
  refine AO.op (O.move rfl rfl) rfl rfl rfl ?_
  refine AO.opG rfl rfl rfl (fun hp => O.move rfl rfl) ?_
  refine AO.opG rfl rfl rfl (fun hp => OpW.force 6 rfl (by exact hp) (O.leq rfl rfl rfl (by rfl))) ?_
  refine AO.op (O.pickAnd rfl rfl rfl rfl (fun h => by exact h)) rfl rfl rfl ?_
  refine AO.op (O.assign rfl rfl) rfl rfl rfl ?_
  refine AO.nil ?_
  refine AQ.thenN ?_
  refine AW.ret ?_
  refine AQ.ret1 rfl rfl ⟨_, List.nil_sublist _, .nil⟩ (⟨rfl, rfl⟩)
theorem sresp_fn (c : Int) : Sp Try.prog 43 [.val (.int .i64 c)] [] (Is (.val (.bool (rs c)))) := by
  refine Sp.enter Try.func43 rfl _ Try.ntmps43 rfl (fun w0 R0 => ?_)
  refine AW.seq ?_
  refine AW.region ?_
  refine AO.op (O.assign rfl rfl) rfl rfl rfl ?_
  refine AO.nil ?_
  refine AQ.thenN ?_
  refine AW.seq ?_
  refine AW.region ?_
  refine AO.op (O.move rfl rfl) rfl rfl rfl ?_
  refine AO.op (O.geq rfl rfl rfl (by rfl)) rfl rfl rfl ?_
  refine AO.op (O.assign rfl rfl) rfl rfl rfl ?_
  refine AO.nil ?_
  refine AQ.thenN ?_
  refine AW.ret ?_
  refine AQ.ret1 rfl rfl ⟨_, List.nil_sublist _, .nil⟩ (⟨rfl, rfl⟩)
theorem rsresp_fn (c : Int) : Sp Try.prog 46 [.val (.int .i64 c)] [] (Is (.val (.bool (rs c)))) := by
  refine Sp.enter Try.func46 rfl _ Try.ntmps46 rfl (fun w0 R0 => ?_)
  refine AW.seq ?_
  refine AW.region ?_
  refine AO.op (O.assign rfl rfl) rfl rfl rfl ?_
  refine AO.nil ?_
  refine AQ.thenN ?_
  refine AW.seq ?_
  refine AW.region ?_
  refine AO.op (O.move rfl rfl) rfl rfl rfl ?_
  refine AO.op (O.geq rfl rfl rfl (by rfl)) rfl rfl rfl ?_
  refine AO.op (O.assign rfl rfl) rfl rfl rfl ?_
  refine AO.nil ?_
  refine AQ.thenN ?_
  refine AW.ret ?_
  refine AQ.ret1 rfl rfl ⟨_, List.nil_sublist _, .nil⟩ (⟨rfl, rfl⟩)
theorem copied_fn (o : Opt) (h : o.val.length ≤ 4294967296) : Sp Try.prog 44 [aggO o] [] (Is (aggO o)) := by
  refine Sp.enter Try.func44 rfl _ Try.ntmps44 rfl (fun w0 R0 => ?_)
  refine AW.seq ?_
  refine AW.region ?_
  refine AO.opB (O.box rfl rfl rfl rfl rfl) rfl rfl rfl ?_
  intro B1
  refine AO.opB (O.alloc rfl (by (dsimp only [List.set, List.append, List.cons_append, List.nil_append, roB_cells, roI_cells, roO_cells, splice, ofConst, AV.cells, List.map, List.map_cons, List.map_nil, List.take, List.drop, Nat.zero_add, Nat.add_zero, Nat.reduceAdd, Nat.reduceMul, Nat.zero_mul, Value.cells, List.toList_toArray, zerosA, List.replicate, List.flatten, List.append_nil]; done)) (by rfl)) rfl rfl rfl ?_
  intro B2
  refine AO.nil ?_
  refine AQ.thenN ?_
  refine AW.seq ?_
  refine AW.regionD 5 (by kernel_rfl) (by kernel_rfl) ?_
  simp only [List.take_succ_cons, List.take_zero, List.drop_succ_cons, List.drop_zero]
  refine FA.op (O.fieldAddr rfl rfl) rfl rfl rfl rfl ?_
  refine FA.op (O.load rfl rfl (by repeat (first | exact List.Mem.head _ | refine List.Mem.tail _ ?_)) (by rfl)) rfl rfl rfl rfl ?_
  refine FA.op (O.fieldAddr rfl rfl) rfl rfl rfl rfl ?_
  refine FA.op (O.load rfl rfl (by repeat (first | exact List.Mem.head _ | refine List.Mem.tail _ ?_)) (by rfl)) rfl rfl rfl rfl ?_
  refine FA.opN (O.appendNil rfl (by rfl) (by rfl) rfl rfl (by exact SrcA.ro TyD.ax (by (simp; done)) (Nat.le_of_ble_eq_true rfl)) (by (simp [AV.cells, AV.one, *]; done)) (by (unfold maxLen; omega)) (by omega)) rfl rfl rfl rfl ?_
  refine FA.nil ?_
  simp only [chosen, List.nil_append, List.cons_append, List.append_nil]
  rintro _ _ ⟨V3, rfl, hV3, rfl⟩
  simp only [List.cons_append, List.nil_append]
  refine AO.g ?_
  refine G.freezeRow 0 rfl [7] (by repeat (first | exact frNil | refine frCons rfl ?_)) ?_
  refine AO.u ?_
  dsimp only [List.map, List.eraseIdx, List.cons_append, List.nil_append]
  refine AO.op (O.build rfl rfl rfl (by rfl)) rfl rfl rfl ?_
  (refine AO.store (i := 0) rfl rfl rfl rfl rfl rfl (by rfl) (by rfl) (by rfl) (by (dsimp only [List.set, List.append, List.cons_append, List.nil_append, roB_cells, roI_cells, roO_cells, splice, ofConst, AV.cells, List.map, List.map_cons, List.map_nil, List.take, List.drop, Nat.zero_add, Nat.add_zero, Nat.reduceAdd, Nat.reduceMul, Nat.zero_mul, Value.cells, List.toList_toArray, zerosA, List.replicate, List.flatten, List.append_nil]; done)) (by (dsimp only [List.set, List.append, List.cons_append, List.nil_append, roB_cells, roI_cells, roO_cells, splice, ofConst, AV.cells, List.map, List.map_cons, List.map_nil, List.take, List.drop, Nat.zero_add, Nat.add_zero, Nat.reduceAdd, Nat.reduceMul, Nat.zero_mul, Value.cells, List.toList_toArray, zerosA, List.replicate, List.flatten, List.append_nil]; done)) ?_)
  refine AO.nil ?_
  refine AQ.thenN ?_
  refine AW.ret ?_
  refine AQ.retCell rfl rfl (by repeat (exact List.Mem.head _)) (by rfl) rfl ⟨_, List.nil_sublist _, .nil⟩ (⟨rfl, rfl⟩)
end Go.Proofs.Ytbmndjjaaeambaa.By

/-
  Layer 30: Split.
-/
namespace Go.Proofs.Ytbmndjjaaeambaa.By
open Go.RowKit L A
set_option linter.unusedVariables false
set_option linter.unusedSimpArgs false
attribute [local irreducible] AW AQ AO
theorem cls_in (n : Int) : 1 ≤ cls n ∧ cls n ≤ 3 := by unfold cls; (repeat' split) <;> omega
def inO (c : Int) (o : Opt) : Opt := if o.num = 6 ∧ rs c = true then ⟨o.num, []⟩ else o
def inL (c : Int) (os : List Opt) : List Opt := (os.filter fun o => decide (cls o.num ≠ 2)).map (inO c)
def outL (os : List Opt) : List Opt := os.filter fun o => decide (cls o.num = 2 ∨ o.num = 6)
def watchB (os : List Opt) : Bool := os.any fun o => decide (o.num = 6)
def badB (os : List Opt) : Bool := os.any fun o => decide (o.num = 9 ∨ o.num = 35)
theorem inL_snoc (c : Int) (os : List Opt) (o : Opt) : inL c (os ++ [o]) = if cls o.num ≠ 2 then inL c os ++ [inO c o] else inL c os := by
  unfold inL
  rw [List.filter_append, List.map_append]
  by_cases h : cls o.num = 2 <;> simp [h]
theorem outL_snoc (os : List Opt) (o : Opt) : outL (os ++ [o]) = if cls o.num = 2 ∨ o.num = 6 then outL os ++ [o] else outL os := by
  unfold outL
  rw [List.filter_append]
  by_cases h : cls o.num = 2 ∨ o.num = 6 <;> simp [h]
theorem watchB_snoc (os : List Opt) (o : Opt) : watchB (os ++ [o]) = (watchB os || decide (o.num = 6)) := by simp [watchB]
theorem badB_snoc (os : List Opt) (o : Opt) : badB (os ++ [o]) = (badB os || decide (o.num = 9 ∨ o.num = 35)) := by simp [badB]
theorem inL_len (c : Int) (os : List Opt) : (inL c os).length ≤ os.length := by rw [inL, List.length_map]; exact List.length_filter_le _ _
theorem outL_len (os : List Opt) : (outL os).length ≤ os.length := List.length_filter_le _ _
def outC (m : Msg) : Int := if rq m.code = true then (if watchB m.opts = true then 5 else 2) else (if watchB m.opts = true then 69 else 68)
def inM (m : Msg) : Msg := ⟨0, m.code, 0, [], inL m.code m.opts, m.pay⟩
def outM (m : Msg) : Msg := ⟨m.ty, outC m, m.id, m.tok, outL m.opts, []⟩
def splitR (m : Msg) : Msg × Msg × Int :=
  if ValM m ∧ (rq m.code = true ∨ rs m.code = true) then (if badB m.opts = true then (Msg.none, Msg.none, 15) else (inM m, outM m, 0)) else (Msg.none, Msg.none, 1)
abbrev res3 (r : Msg × Msg × Int) : AV := .tup [aggM r.1, aggM r.2.1, .val (.int .i64 r.2.2)]
theorem ret3M {m a b : Msg} {e : Int} (h : splitR m = (a, b, e)) : Is (res3 (splitR m)) (.tup [aggM a, aggM b, .val (.int .i64 e)]) [] := by rw [h]; exact ⟨rfl, rfl⟩
theorem ValM.sm {m : Msg} (h : ValM m) : m.tok.length ≤ 8 ∧ m.pay.length ≤ 4096 ∧ m.opts.length ≤ 32 ∧ ∀ k, k < m.opts.length → (oat m.opts k).val.length ≤ 1034 := by
  obtain ⟨⟨-, h2, h3, -, -, h6⟩, -⟩ := h
  exact ⟨by omega, by omega, by omega, fun k hk => by have := (AscO_at h3 hk).2.2; omega⟩
set_option maxHeartbeats 8000000 in
theorem split_fn (m : Msg) : Sp Try.prog 20 [aggM m] [] (Is (res3 (splitR m))) := by
  have bT : ∀ {b : Bool}, b = true → rq m.code = b → True := fun _ _ => trivial
  refine Sp.enter Try.func20 rfl _ Try.ntmps20 rfl (fun w0 R0 => ?_)
  refine AW.seq ?_
  refine AW.region ?_
  refine AO.opB (O.box rfl rfl rfl rfl rfl) rfl rfl rfl ?_
  intro B1
  refine AO.opB (O.alloc rfl (by (dsimp only [List.set, List.append, List.cons_append, List.nil_append, roB_cells, roI_cells, roO_cells, splice, ofConst, AV.cells, List.map, List.map_cons, List.map_nil, List.take, List.drop, Nat.zero_add, Nat.add_zero, Nat.reduceAdd, Nat.reduceMul, Nat.zero_mul, Value.cells, List.toList_toArray, zerosA, List.replicate, List.flatten, List.append_nil]; done)) (by rfl)) rfl rfl rfl ?_
  intro B2
  refine AO.opB (O.alloc rfl (by (dsimp only [List.set, List.append, List.cons_append, List.nil_append, roB_cells, roI_cells, roO_cells, splice, ofConst, AV.cells, List.map, List.map_cons, List.map_nil, List.take, List.drop, Nat.zero_add, Nat.add_zero, Nat.reduceAdd, Nat.reduceMul, Nat.zero_mul, Value.cells, List.toList_toArray, zerosA, List.replicate, List.flatten, List.append_nil]; done)) (by rfl)) rfl rfl rfl ?_
  intro B3
  refine AO.op (O.assign rfl rfl) rfl rfl rfl ?_
  refine AO.nil ?_
  refine AQ.thenN ?_
  refine AW.seq ?_
  refine AW.seq ?_
  refine AW.region ?_
  (refine AO.op (O.loadK rfl rfl (by repeat (first | exact List.Mem.head _ | refine List.Mem.tail _ ?_)) (by (dsimp only [List.set, List.append, List.cons_append, List.nil_append, roB_cells, roI_cells, roO_cells, splice, ofConst, AV.cells, List.map, List.map_cons, List.map_nil, List.take, List.drop, Nat.zero_add, Nat.add_zero, Nat.reduceAdd, Nat.reduceMul, Nat.zero_mul, Value.cells, List.toList_toArray, zerosA, List.replicate, List.flatten, List.append_nil]; done)) (by rfl)) rfl rfl rfl ?_)
  refine AO.op (O.call rfl Try.func41 rfl rfl rfl (enc_fn m)) rfl rfl rfl ?_
  refine AO.op (O.move rfl rfl) rfl rfl rfl ?_
  refine AO.op (O.extract rfl rfl rfl) rfl rfl rfl ?_
  refine AO.op (O.extract rfl rfl rfl) rfl rfl rfl ?_
  refine AO.op (O.assign rfl rfl) rfl rfl rfl ?_
  refine AO.op (O.assign rfl rfl) rfl rfl rfl ?_
  refine AO.nil ?_
  refine AQ.thenN ?_
  refine AW.seq ?_
  refine AW.region ?_
  refine AO.op (O.move rfl rfl) rfl rfl rfl ?_
  refine AO.op (O.neq rfl rfl rfl (by rfl)) rfl rfl rfl ?_
  refine AO.op (O.move rfl rfl) rfl rfl rfl ?_
  refine AO.opG rfl rfl rfl (fun hp => O.fieldAddr rfl rfl) ?_
  refine AO.opG rfl rfl rfl (fun hp => OpW.force 22 rfl (by exact hp) (O.load rfl rfl (by repeat (first | exact List.Mem.head _ | refine List.Mem.tail _ ?_)) (by rfl))) ?_
  refine AO.opG rfl rfl rfl (fun hp => OpW.force 23 rfl (by exact hp) (O.call rfl Try.func42 rfl rfl rfl (sreq_fn m.code))) ?_
  refine AO.opG rfl rfl rfl (fun hp => OpW.force 24 rfl (by exact hp) (O.not rfl rfl (by rfl))) ?_
  refine AO.opG rfl rfl rfl (fun hp => OpW.force 25 rfl (by exact hp) (O.move rfl rfl)) ?_
  refine AO.opG rfl rfl rfl (fun hp => O.fieldAddr rfl rfl) ?_
  refine AO.opG rfl rfl rfl (fun hp => OpW.force 27 rfl (by exact hp) (O.load rfl rfl (by repeat (first | exact List.Mem.head _ | refine List.Mem.tail _ ?_)) (by rfl))) ?_
  refine AO.opG rfl rfl rfl (fun hp => OpW.force 28 rfl (by exact hp) (O.call rfl Try.func43 rfl rfl rfl (sresp_fn m.code))) ?_
  refine AO.opG rfl rfl rfl (fun hp => OpW.force 29 rfl (by exact hp) (O.not rfl rfl (by rfl))) ?_
  refine AO.opG rfl rfl rfl (fun hp => OpW.force 26 rfl (by exact hp) (O.pickAnd rfl rfl rfl rfl (fun h => by simp_all))) ?_
  refine AO.op (O.pickOr rfl rfl rfl rfl (fun h => by exact congrArg (fun b => !b) h)) rfl rfl rfl ?_
  refine AO.nil ?_
  refine AQ.thenN ?_
  refine AW.split rfl (fun h => ?_) (fun h => ?_) <;> (try simp only [decide_eq_true_eq, decide_eq_false_iff_not, beq_iff_eq, beq_eq_false_iff_ne, bne_iff_ne, bne_eq_false_iff_eq, Bool.not_eq_true', Bool.not_eq_false', Bool.not_eq_true, Bool.not_eq_false, ne_eq, Int.not_lt, Int.not_le, Bool.and_eq_true, Bool.or_eq_true, Bool.or_eq_false_iff, Bool.and_eq_false_imp, strOf_toList, Decidable.not_not] at h)
  · skip
    have e : splitR m = (Msg.none, Msg.none, 1) := if_neg (by
      rintro ⟨hv, hc⟩
      rw [encR_t hv] at h
      simp at h
      simp [h.1, h.2] at hc)
    refine AW.seq ?_
    refine AW.region ?_
    refine AO.op (O.build rfl rfl rfl (by rfl)) rfl rfl rfl ?_
    refine AO.op (O.build rfl rfl rfl (by rfl)) rfl rfl rfl ?_
    (refine AO.store (i := 1) rfl rfl rfl rfl rfl rfl (by rfl) (by rfl) (by rfl) (by (dsimp only [List.set, List.append, List.cons_append, List.nil_append, roB_cells, roI_cells, roO_cells, splice, ofConst, AV.cells, List.map, List.map_cons, List.map_nil, List.take, List.drop, Nat.zero_add, Nat.add_zero, Nat.reduceAdd, Nat.reduceMul, Nat.zero_mul, Value.cells, List.toList_toArray, zerosA, List.replicate, List.flatten, List.append_nil]; done)) (by (dsimp only [List.set, List.append, List.cons_append, List.nil_append, roB_cells, roI_cells, roO_cells, splice, ofConst, AV.cells, List.map, List.map_cons, List.map_nil, List.take, List.drop, Nat.zero_add, Nat.add_zero, Nat.reduceAdd, Nat.reduceMul, Nat.zero_mul, Value.cells, List.toList_toArray, zerosA, List.replicate, List.flatten, List.append_nil]; done)) ?_)
    (refine AO.store (i := 0) rfl rfl rfl rfl rfl rfl (by rfl) (by rfl) (by rfl) (by (dsimp only [List.set, List.append, List.cons_append, List.nil_append, roB_cells, roI_cells, roO_cells, splice, ofConst, AV.cells, List.map, List.map_cons, List.map_nil, List.take, List.drop, Nat.zero_add, Nat.add_zero, Nat.reduceAdd, Nat.reduceMul, Nat.zero_mul, Value.cells, List.toList_toArray, zerosA, List.replicate, List.flatten, List.append_nil]; done)) (by (dsimp only [List.set, List.append, List.cons_append, List.nil_append, roB_cells, roI_cells, roO_cells, splice, ofConst, AV.cells, List.map, List.map_cons, List.map_nil, List.take, List.drop, Nat.zero_add, Nat.add_zero, Nat.reduceAdd, Nat.reduceMul, Nat.zero_mul, Value.cells, List.toList_toArray, zerosA, List.replicate, List.flatten, List.append_nil]; done)) ?_)
    refine AO.op (O.assign rfl rfl) rfl rfl rfl ?_
    refine AO.nil ?_
    refine AQ.thenN ?_
    refine AW.ret ?_
    refine AQ.thenR ?_
    refine FnQ.coe (AQ.ret3G rfl (by exact ResAt.cell rfl (by repeat (first | exact List.Mem.head _ | refine List.Mem.tail _ ?_)) (by (dsimp only [List.set, List.append, List.cons_append, List.nil_append, roB_cells, roI_cells, roO_cells, splice, ofConst, AV.cells, List.map, List.map_cons, List.map_nil, List.take, List.drop, Nat.zero_add, Nat.add_zero, Nat.reduceAdd, Nat.reduceMul, Nat.zero_mul, Value.cells, List.toList_toArray, zerosA, List.replicate, List.flatten, List.append_nil]; done)) (by rfl)) (by exact ResAt.cell rfl (by repeat (exact List.Mem.head _)) (by (dsimp only [List.set, List.append, List.cons_append, List.nil_append, roB_cells, roI_cells, roO_cells, splice, ofConst, AV.cells, List.map, List.map_cons, List.map_nil, List.take, List.drop, Nat.zero_add, Nat.add_zero, Nat.reduceAdd, Nat.reduceMul, Nat.zero_mul, Value.cells, List.toList_toArray, zerosA, List.replicate, List.flatten, List.append_nil]; done)) (by rfl)) (by exact ResAt.tmp rfl) ⟨_, List.nil_sublist _, .nil⟩ ⟨rfl, rfl⟩) (Coe.tup (by (repeat (first | exact CoeL.nil | refine CoeL.cons Coe.rfl ?_ | refine CoeL.cons Coe.nil ?_ | refine CoeL.cons (Coe.agg ?_) ?_)); done)) (ret3M e)
  · skip
    have hv : ValM m := Classical.byContradiction fun hv => by rw [encR_f hv] at h; simp at h
    have hc : rq m.code = true ∨ rs m.code = true := by rw [encR_t hv] at h; simp at h; cases hq : rq m.code <;> simp_all
    obtain ⟨s1, s2, s3, s4⟩ := hv.sm
    refine AW.skip ?_
    refine AQ.thenN ?_
    refine AW.seq ?_
    refine AW.regionD 7 (by kernel_rfl) (by kernel_rfl) ?_
    simp only [List.take_succ_cons, List.take_zero, List.drop_succ_cons, List.drop_zero]
    refine FA.op (O.fieldAddr rfl rfl) rfl rfl rfl rfl ?_
    refine FA.op (O.load rfl rfl (by repeat (first | exact List.Mem.head _ | refine List.Mem.tail _ ?_)) (by rfl)) rfl rfl rfl rfl ?_
    refine FA.op (O.fieldAddr rfl rfl) rfl rfl rfl rfl ?_
    refine FA.op (O.load rfl rfl (by repeat (first | exact List.Mem.head _ | refine List.Mem.tail _ ?_)) (by rfl)) rfl rfl rfl rfl ?_
    refine FA.op (OpW.frzR (O.appendNil rfl (by rfl) (by rfl) rfl rfl (by exact SrcA.ro TyD.ax (by (simp; done)) (Nat.le_of_ble_eq_true rfl)) (by (simp [AV.cells, AV.one, *]; done)) (by (unfold maxLen; omega)) (by omega))) rfl rfl rfl rfl ?_
    refine FA.op (O.build rfl rfl rfl (by rfl)) rfl rfl rfl rfl ?_
    refine FA.opN (O.alloc rfl (by (dsimp only [List.set, List.append, List.cons_append, List.nil_append, roB_cells, roI_cells, roO_cells, splice, ofConst, AV.cells, List.map, List.map_cons, List.map_nil, List.take, List.drop, Nat.zero_add, Nat.add_zero, Nat.reduceAdd, Nat.reduceMul, Nat.zero_mul, Value.cells, List.toList_toArray, zerosA, List.replicate, List.flatten, List.append_nil]; done)) (by rfl)) rfl rfl rfl rfl ?_
    refine FA.nil ?_
    simp only [chosen, List.nil_append, List.cons_append, List.append_nil]
    rintro _ _ ⟨B4, rfl, rfl⟩
    simp only [List.cons_append, List.nil_append]
    (refine AO.store (i := 0) rfl rfl rfl rfl rfl rfl (by rfl) (by rfl) (by rfl) (by (dsimp only [List.set, List.append, List.cons_append, List.nil_append, roB_cells, roI_cells, roO_cells, splice, ofConst, AV.cells, List.map, List.map_cons, List.map_nil, List.take, List.drop, Nat.zero_add, Nat.add_zero, Nat.reduceAdd, Nat.reduceMul, Nat.zero_mul, Value.cells, List.toList_toArray, zerosA, List.replicate, List.flatten, List.append_nil]; done)) (by (dsimp only [List.set, List.append, List.cons_append, List.nil_append, roB_cells, roI_cells, roO_cells, splice, ofConst, AV.cells, List.map, List.map_cons, List.map_nil, List.take, List.drop, Nat.zero_add, Nat.add_zero, Nat.reduceAdd, Nat.reduceMul, Nat.zero_mul, Value.cells, List.toList_toArray, zerosA, List.replicate, List.flatten, List.append_nil]; done)) ?_)
    refine AO.nil ?_
    refine AQ.thenN ?_
    refine AW.seq ?_
    refine AW.regionD 9 (by kernel_rfl) (by kernel_rfl) ?_
    simp only [List.take_succ_cons, List.take_zero, List.drop_succ_cons, List.drop_zero]
    refine FA.op (O.fieldAddr rfl rfl) rfl rfl rfl rfl ?_
    refine FA.op (O.load rfl rfl (by repeat (first | exact List.Mem.head _ | refine List.Mem.tail _ ?_)) (by rfl)) rfl rfl rfl rfl ?_
    refine FA.op (O.fieldAddr rfl rfl) rfl rfl rfl rfl ?_
    refine FA.op (O.load rfl rfl (by repeat (first | exact List.Mem.head _ | refine List.Mem.tail _ ?_)) (by rfl)) rfl rfl rfl rfl ?_
    refine FA.op (O.fieldAddr rfl rfl) rfl rfl rfl rfl ?_
    refine FA.op (O.load rfl rfl (by repeat (first | exact List.Mem.head _ | refine List.Mem.tail _ ?_)) (by rfl)) rfl rfl rfl rfl ?_
    refine FA.op (OpW.frzR (O.appendNil rfl (by rfl) (by rfl) rfl rfl (by exact SrcA.ro TyD.ax (by (simp; done)) (Nat.le_of_ble_eq_true rfl)) (by (simp [AV.cells, AV.one, *]; done)) (by (unfold maxLen; omega)) (by omega))) rfl rfl rfl rfl ?_
    refine FA.op (O.build rfl rfl rfl (by rfl)) rfl rfl rfl rfl ?_
    refine FA.opN (O.alloc rfl (by (dsimp only [List.set, List.append, List.cons_append, List.nil_append, roB_cells, roI_cells, roO_cells, splice, ofConst, AV.cells, List.map, List.map_cons, List.map_nil, List.take, List.drop, Nat.zero_add, Nat.add_zero, Nat.reduceAdd, Nat.reduceMul, Nat.zero_mul, Value.cells, List.toList_toArray, zerosA, List.replicate, List.flatten, List.append_nil]; done)) (by rfl)) rfl rfl rfl rfl ?_
    refine FA.nil ?_
    simp only [chosen, List.nil_append, List.cons_append, List.append_nil]
    rintro _ _ ⟨B5, rfl, rfl⟩
    simp only [List.cons_append, List.nil_append]
    (refine AO.store (i := 0) rfl rfl rfl rfl rfl rfl (by rfl) (by rfl) (by rfl) (by (dsimp only [List.set, List.append, List.cons_append, List.nil_append, roB_cells, roI_cells, roO_cells, splice, ofConst, AV.cells, List.map, List.map_cons, List.map_nil, List.take, List.drop, Nat.zero_add, Nat.add_zero, Nat.reduceAdd, Nat.reduceMul, Nat.zero_mul, Value.cells, List.toList_toArray, zerosA, List.replicate, List.flatten, List.append_nil]; done)) (by (dsimp only [List.set, List.append, List.cons_append, List.nil_append, roB_cells, roI_cells, roO_cells, splice, ofConst, AV.cells, List.map, List.map_cons, List.map_nil, List.take, List.drop, Nat.zero_add, Nat.add_zero, Nat.reduceAdd, Nat.reduceMul, Nat.zero_mul, Value.cells, List.toList_toArray, zerosA, List.replicate, List.flatten, List.append_nil]; done)) ?_)
    refine AO.nil ?_
    refine AQ.thenN ?_
    refine AW.seq ?_
    refine AW.region ?_
    refine AO.op (O.assign rfl rfl) rfl rfl rfl ?_
    refine AO.nil ?_
    refine AQ.thenN ?_
    refine AW.seq ?_
    refine AW.seq ?_
    refine AW.region ?_
    refine AO.op (O.fieldAddr rfl rfl) rfl rfl rfl ?_
    refine AO.op (O.load rfl rfl (by repeat (first | exact List.Mem.head _ | refine List.Mem.tail _ ?_)) (by rfl)) rfl rfl rfl ?_
    refine AO.op (O.lenR rfl rfl) rfl rfl rfl ?_
    refine AO.op (O.move rfl rfl) rfl rfl rfl ?_
    refine AO.nil ?_
    refine AQ.thenN ?_
    refine AW.block ?_
    refine AW.g ?_
    refine G.nilRow 62 2 ?_
    refine AW.u ?_
    refine AW.g ?_
    refine G.nilRow 62 2 ?_
    refine AW.u ?_
    refine AW.loopK [(1, _), (2, _), (3, _), (7, _), (8, _), (50, _), (51, _)] (fun nn E H => ∃ (k : Nat) (V V' : Value), (k ≤ m.opts.length) ∧ (V.oneCell' = true) ∧ (V'.oneCell' = true) ∧ (badB (m.opts.take k) = false) ∧ nn = m.opts.length - k ∧ E = [(9, .val (.bool (watchB (m.opts.take k)))), (52, .val (.int .i64 (k : Int)))] ∧ H = [.row V 62 2 (inL m.code (m.opts.take k)).length (optsA (inL m.code (m.opts.take k))), .row V' 62 2 (outL (m.opts.take k)).length (optsA (outL (m.opts.take k))), .blk B4 29 6 [.val (.int .i64 0), .val (.int .i64 m.code), .val (.int .i64 0), .val (.slice none 0 0), .val V, roB m.pay], .blk B5 29 6 [.val (.int .i64 m.ty), .val (.int .i64 0), .val (.int .i64 m.id), roB m.tok, .val V', .val (.slice none 0 0)], .blk B3 29 6 [.val (.int .i64 0), .val (.int .i64 0), .val (.int .i64 0), .val (.slice none 0 0), .val (.slice none 0 0), .val (.slice none 0 0)], .blk B2 29 6 [.val (.int .i64 0), .val (.int .i64 0), .val (.int .i64 0), .val (.slice none 0 0), .val (.slice none 0 0), .val (.slice none 0 0)], .blk B1 29 6 [.val (.int .i64 m.ty), .val (.int .i64 m.code), .val (.int .i64 m.id), roB m.tok, roO m.opts, roB m.pay]]) _ (⟨0, _, _, by omega, rfl, rfl, rfl, rfl, rfl, rfl⟩) (by repeat (first | exact envNil | refine envCons rfl ?_)) (by repeat (first | exact envNil | refine envCons rfl ?_)) (by repeat (first | exact subPnil | refine subPcons 0 rfl ?_ | refine subPcons 1 rfl ?_)) ?_
    rintro nn E H ⟨k, V, V', hk, hV, hV', hb, rfl, rfl, rfl⟩
    dsimp only [List.cons_append, List.nil_append]
    have hl1 := inL_len m.code (m.opts.take k)
    have hl2 := outL_len (m.opts.take k)
    rw [List.length_take] at hl1 hl2
    refine AW.seq ?_
    refine AW.region ?_
    refine AO.op (O.lss rfl rfl rfl (by rfl)) rfl rfl rfl ?_
    refine AO.nil ?_
    refine AQ.thenN ?_
    refine AW.seq ?_
    refine AW.split rfl (fun h2 => ?_) (fun h2 => ?_) <;> (try simp only [decide_eq_true_eq, decide_eq_false_iff_not, beq_iff_eq, beq_eq_false_iff_ne, bne_iff_ne, bne_eq_false_iff_eq, Bool.not_eq_true', Bool.not_eq_false', Bool.not_eq_true, Bool.not_eq_false, ne_eq, Int.not_lt, Int.not_le, Bool.and_eq_true, Bool.or_eq_true, Bool.or_eq_false_iff, Bool.and_eq_false_imp, strOf_toList, Decidable.not_not] at h2)
    · skip
      have hkk : k < m.opts.length := by omega
      have hv4 : (oat m.opts k).val.length ≤ 4294967296 := by have := s4 k hkk; omega
      have hci := cls_in (oat m.opts k).num
      refine AW.skip ?_
      refine AQ.thenN ?_
      refine AW.seq ?_
      refine AW.block ?_
      refine AW.seq ?_
      refine AW.region ?_
      refine AO.op (O.idxR rfl rfl rfl ⟨(by omega), (by omega)⟩) rfl rfl rfl ?_
      refine AO.op (O.loadRK rfl rfl (by exact getO (by omega) (by omega)) (by rfl)) rfl rfl rfl ?_
      refine AO.opB (O.alloc rfl (by (dsimp only [List.set, List.append, List.cons_append, List.nil_append, roB_cells, roI_cells, roO_cells, splice, ofConst, AV.cells, List.map, List.map_cons, List.map_nil, List.take, List.drop, Nat.zero_add, Nat.add_zero, Nat.reduceAdd, Nat.reduceMul, Nat.zero_mul, Value.cells, List.toList_toArray, zerosA, List.replicate, List.flatten, List.append_nil]; done)) (by rfl)) rfl rfl rfl ?_
      intro B6
      (refine AO.store (i := 0) rfl rfl rfl rfl rfl rfl (by rfl) (by rfl) (by rfl) (by (dsimp only [List.set, List.append, List.cons_append, List.nil_append, roB_cells, roI_cells, roO_cells, splice, ofConst, AV.cells, List.map, List.map_cons, List.map_nil, List.take, List.drop, Nat.zero_add, Nat.add_zero, Nat.reduceAdd, Nat.reduceMul, Nat.zero_mul, Value.cells, List.toList_toArray, zerosA, List.replicate, List.flatten, List.append_nil]; done)) (by (dsimp only [List.set, List.append, List.cons_append, List.nil_append, roB_cells, roI_cells, roO_cells, splice, ofConst, AV.cells, List.map, List.map_cons, List.map_nil, List.take, List.drop, Nat.zero_add, Nat.add_zero, Nat.reduceAdd, Nat.reduceMul, Nat.zero_mul, Value.cells, List.toList_toArray, zerosA, List.replicate, List.flatten, List.append_nil]; done)) ?_)
      refine AO.nil ?_
      refine AQ.thenN ?_
      refine AW.seq ?_
      refine AW.seq ?_
      refine AW.region ?_
      refine AO.op (O.fieldAddr rfl rfl) rfl rfl rfl ?_
      refine AO.op (O.load rfl rfl (by repeat (exact List.Mem.head _)) (by rfl)) rfl rfl rfl ?_
      refine AO.op (O.eql rfl rfl rfl (by rfl)) rfl rfl rfl ?_
      refine AO.op (O.move rfl rfl) rfl rfl rfl ?_
      refine AO.opG rfl rfl rfl (fun hp => O.fieldAddr rfl rfl) ?_
      refine AO.opG rfl rfl rfl (fun hp => OpW.force 60 rfl (by exact hp) (O.load rfl rfl (by repeat (exact List.Mem.head _)) (by rfl))) ?_
      refine AO.opG rfl rfl rfl (fun hp => OpW.force 61 rfl (by exact hp) (O.eql rfl rfl rfl (by rfl))) ?_
      refine AO.op (O.pickOr rfl rfl rfl rfl (fun h => by exact congrArg (fun b => !b) h)) rfl rfl rfl ?_
      refine AO.nil ?_
      refine AQ.thenN ?_
      refine AW.split rfl (fun h3 => ?_) (fun h3 => ?_) <;> (try simp only [decide_eq_true_eq, decide_eq_false_iff_not, beq_iff_eq, beq_eq_false_iff_ne, bne_iff_ne, bne_eq_false_iff_eq, Bool.not_eq_true', Bool.not_eq_false', Bool.not_eq_true, Bool.not_eq_false, ne_eq, Int.not_lt, Int.not_le, Bool.and_eq_true, Bool.or_eq_true, Bool.or_eq_false_iff, Bool.and_eq_false_imp, strOf_toList, Decidable.not_not] at h3)
      · skip
        have e : splitR m = (Msg.none, Msg.none, 15) := by
          rw [splitR, if_pos ⟨hv, hc⟩, if_pos]
          exact List.any_eq_true.2 ⟨oat m.opts k, getD_mem _ hkk, by simpa using h3⟩
        refine AW.seq ?_
        refine AW.region ?_
        refine AO.op (O.build rfl rfl rfl (by rfl)) rfl rfl rfl ?_
        refine AO.op (O.build rfl rfl rfl (by rfl)) rfl rfl rfl ?_
        (refine AO.store (i := 6) rfl rfl rfl rfl rfl rfl (by rfl) (by rfl) (by rfl) (by (dsimp only [List.set, List.append, List.cons_append, List.nil_append, roB_cells, roI_cells, roO_cells, splice, ofConst, AV.cells, List.map, List.map_cons, List.map_nil, List.take, List.drop, Nat.zero_add, Nat.add_zero, Nat.reduceAdd, Nat.reduceMul, Nat.zero_mul, Value.cells, List.toList_toArray, zerosA, List.replicate, List.flatten, List.append_nil]; done)) (by (dsimp only [List.set, List.append, List.cons_append, List.nil_append, roB_cells, roI_cells, roO_cells, splice, ofConst, AV.cells, List.map, List.map_cons, List.map_nil, List.take, List.drop, Nat.zero_add, Nat.add_zero, Nat.reduceAdd, Nat.reduceMul, Nat.zero_mul, Value.cells, List.toList_toArray, zerosA, List.replicate, List.flatten, List.append_nil]; done)) ?_)
        (refine AO.store (i := 5) rfl rfl rfl rfl rfl rfl (by rfl) (by rfl) (by rfl) (by (dsimp only [List.set, List.append, List.cons_append, List.nil_append, roB_cells, roI_cells, roO_cells, splice, ofConst, AV.cells, List.map, List.map_cons, List.map_nil, List.take, List.drop, Nat.zero_add, Nat.add_zero, Nat.reduceAdd, Nat.reduceMul, Nat.zero_mul, Value.cells, List.toList_toArray, zerosA, List.replicate, List.flatten, List.append_nil]; done)) (by (dsimp only [List.set, List.append, List.cons_append, List.nil_append, roB_cells, roI_cells, roO_cells, splice, ofConst, AV.cells, List.map, List.map_cons, List.map_nil, List.take, List.drop, Nat.zero_add, Nat.add_zero, Nat.reduceAdd, Nat.reduceMul, Nat.zero_mul, Value.cells, List.toList_toArray, zerosA, List.replicate, List.flatten, List.append_nil]; done)) ?_)
        refine AO.op (O.assign rfl rfl) rfl rfl rfl ?_
        refine AO.nil ?_
        refine AQ.thenN ?_
        refine AW.ret ?_
        refine AQ.thenR ?_
        refine AQ.blockR ?_
        refine AQ.thenR ?_
        refine AQ.loopR ?_
        refine AQ.blockR ?_
        refine AQ.thenR ?_
        refine FnQ.coe (AQ.ret3G rfl (by exact ResAt.cell rfl (by repeat (first | exact List.Mem.head _ | refine List.Mem.tail _ ?_)) (by (dsimp only [List.set, List.append, List.cons_append, List.nil_append, roB_cells, roI_cells, roO_cells, splice, ofConst, AV.cells, List.map, List.map_cons, List.map_nil, List.take, List.drop, Nat.zero_add, Nat.add_zero, Nat.reduceAdd, Nat.reduceMul, Nat.zero_mul, Value.cells, List.toList_toArray, zerosA, List.replicate, List.flatten, List.append_nil]; done)) (by rfl)) (by exact ResAt.cell rfl (by repeat (first | exact List.Mem.head _ | refine List.Mem.tail _ ?_)) (by (dsimp only [List.set, List.append, List.cons_append, List.nil_append, roB_cells, roI_cells, roO_cells, splice, ofConst, AV.cells, List.map, List.map_cons, List.map_nil, List.take, List.drop, Nat.zero_add, Nat.add_zero, Nat.reduceAdd, Nat.reduceMul, Nat.zero_mul, Value.cells, List.toList_toArray, zerosA, List.replicate, List.flatten, List.append_nil]; done)) (by rfl)) (by exact ResAt.tmp rfl) ⟨_, List.nil_sublist _, .nil⟩ ⟨rfl, rfl⟩) (Coe.tup (by (repeat (first | exact CoeL.nil | refine CoeL.cons Coe.rfl ?_ | refine CoeL.cons Coe.nil ?_ | refine CoeL.cons (Coe.agg ?_) ?_)); done)) (ret3M e)
      · skip
        refine AW.skip ?_
        refine AQ.thenN ?_
        refine AW.seq ?_
        refine AW.region ?_
        refine AO.op (O.fieldAddr rfl rfl) rfl rfl rfl ?_
        refine AO.op (O.load rfl rfl (by repeat (exact List.Mem.head _)) (by rfl)) rfl rfl rfl ?_
        refine AO.op (O.call rfl Try.func9 rfl rfl rfl (class_fn _)) rfl rfl rfl ?_
        refine AO.op (O.assign rfl rfl) rfl rfl rfl ?_
        refine AO.nil ?_
        refine AQ.thenN ?_
        refine AW.seq ?_
        refine AW.seq ?_
        refine AW.region ?_
        refine AO.op (O.move rfl rfl) rfl rfl rfl ?_
        refine AO.op (O.and_ rfl rfl rfl (andI64 1 (by decide) (by decide) (m := 2) (by decide) (by omega))) rfl rfl rfl ?_
        refine AO.op (O.neq rfl rfl rfl (by rfl)) rfl rfl rfl ?_
        refine AO.nil ?_
        refine AQ.thenN ?_
        have hb' : badB (m.opts.take (k + 1)) = false := by rw [take_snoc Opt.none hkk, badB_snoc, hb, Bool.false_or]; exact decide_eq_false (fun hx => hx.elim h3.1 h3.2)
        have hw' : watchB (m.opts.take (k + 1)) = (watchB (m.opts.take k) || decide ((oat m.opts k).num = 6)) := by rw [take_snoc Opt.none hkk, watchB_snoc]
        have hin := inL_snoc m.code (m.opts.take k) (oat m.opts k)
        have hou := outL_snoc (m.opts.take k) (oat m.opts k)
        rw [← take_snoc Opt.none hkk] at hin hou
        refine AW.joinI [(1, _), (2, _), (3, _), (7, _), (8, _), (9, _), (11, _), (12, _), (50, _), (51, _), (52, _)] (fun E H => ∃ (W : Value), (W.oneCell' = true) ∧ E = [] ∧ H = [.blk B6 62 2 [.val (.int .i64 (oat m.opts k).num), roB (oat m.opts k).val], .row W 62 2 (inL m.code (m.opts.take (k + 1))).length (optsA (inL m.code (m.opts.take (k + 1)))), .row V' 62 2 (outL (m.opts.take k)).length (optsA (outL (m.opts.take k))), .blk B4 29 6 [.val (.int .i64 0), .val (.int .i64 m.code), .val (.int .i64 0), .val (.slice none 0 0), .val W, roB m.pay], .blk B5 29 6 [.val (.int .i64 m.ty), .val (.int .i64 0), .val (.int .i64 m.id), roB m.tok, .val V', .val (.slice none 0 0)], .blk B3 29 6 [.val (.int .i64 0), .val (.int .i64 0), .val (.int .i64 0), .val (.slice none 0 0), .val (.slice none 0 0), .val (.slice none 0 0)], .blk B2 29 6 [.val (.int .i64 0), .val (.int .i64 0), .val (.int .i64 0), .val (.slice none 0 0), .val (.slice none 0 0), .val (.slice none 0 0)], .blk B1 29 6 [.val (.int .i64 m.ty), .val (.int .i64 m.code), .val (.int .i64 m.id), roB m.tok, roO m.opts, roB m.pay]]) rfl (by repeat (first | exact envNil | refine envCons rfl ?_)) (fun h71 => ?_) (fun h71 => ?_) ?_ <;> try (try simp only [decide_eq_true_eq, decide_eq_false_iff_not, beq_iff_eq, beq_eq_false_iff_ne, bne_iff_ne, bne_eq_false_iff_eq, Bool.not_eq_true', Bool.not_eq_false', Bool.not_eq_true, Bool.not_eq_false, ne_eq, Int.not_lt, Int.not_le, Bool.and_eq_true, Bool.or_eq_true, Bool.or_eq_false_iff, Bool.and_eq_false_imp, strOf_toList, Decidable.not_not] at h71)
        · skip
          rw [if_pos (by omega)] at hin
          refine AW.seq ?_
          refine AW.region ?_
          (refine AO.op (O.loadK rfl rfl (by repeat (exact List.Mem.head _)) (by (dsimp only [List.set, List.append, List.cons_append, List.nil_append, roB_cells, roI_cells, roO_cells, splice, ofConst, AV.cells, List.map, List.map_cons, List.map_nil, List.take, List.drop, Nat.zero_add, Nat.add_zero, Nat.reduceAdd, Nat.reduceMul, Nat.zero_mul, Value.cells, List.toList_toArray, zerosA, List.replicate, List.flatten, List.append_nil]; done)) (by rfl)) rfl rfl rfl ?_)
          refine AO.op (O.call rfl Try.func44 rfl rfl rfl (copied_fn (oat m.opts k) hv4)) rfl rfl rfl ?_
          refine AO.opB (O.alloc rfl (by (dsimp only [List.set, List.append, List.cons_append, List.nil_append, roB_cells, roI_cells, roO_cells, splice, ofConst, AV.cells, List.map, List.map_cons, List.map_nil, List.take, List.drop, Nat.zero_add, Nat.add_zero, Nat.reduceAdd, Nat.reduceMul, Nat.zero_mul, Value.cells, List.toList_toArray, zerosA, List.replicate, List.flatten, List.append_nil]; done)) (by rfl)) rfl rfl rfl ?_
          intro B7
          (refine AO.store (i := 0) rfl rfl rfl rfl rfl rfl (by rfl) (by rfl) (by rfl) (by (dsimp only [List.set, List.append, List.cons_append, List.nil_append, roB_cells, roI_cells, roO_cells, splice, ofConst, AV.cells, List.map, List.map_cons, List.map_nil, List.take, List.drop, Nat.zero_add, Nat.add_zero, Nat.reduceAdd, Nat.reduceMul, Nat.zero_mul, Value.cells, List.toList_toArray, zerosA, List.replicate, List.flatten, List.append_nil]; done)) (by (dsimp only [List.set, List.append, List.cons_append, List.nil_append, roB_cells, roI_cells, roO_cells, splice, ofConst, AV.cells, List.map, List.map_cons, List.map_nil, List.take, List.drop, Nat.zero_add, Nat.add_zero, Nat.reduceAdd, Nat.reduceMul, Nat.zero_mul, Value.cells, List.toList_toArray, zerosA, List.replicate, List.flatten, List.append_nil]; done)) ?_)
          refine AO.nil ?_
          refine AQ.thenN ?_
          refine AW.seq ?_
          refine AW.seq ?_
          refine AW.region ?_
          refine AO.op (O.fieldAddr rfl rfl) rfl rfl rfl ?_
          refine AO.op (O.load rfl rfl (by repeat (first | exact List.Mem.head _ | refine List.Mem.tail _ ?_)) (by rfl)) rfl rfl rfl ?_
          refine AO.op (O.eql rfl rfl rfl (by rfl)) rfl rfl rfl ?_
          refine AO.op (O.move rfl rfl) rfl rfl rfl ?_
          refine AO.opG rfl rfl rfl (fun hp => O.fieldAddr rfl rfl) ?_
          refine AO.opG rfl rfl rfl (fun hp => OpW.force 78 rfl (by exact hp) (O.load rfl rfl (by repeat (first | exact List.Mem.head _ | refine List.Mem.tail _ ?_)) (by rfl))) ?_
          refine AO.opG rfl rfl rfl (fun hp => OpW.force 79 rfl (by exact hp) (O.call rfl Try.func43 rfl rfl rfl (sresp_fn m.code))) ?_
          refine AO.op (O.pickAnd rfl rfl rfl rfl (fun h => by exact h)) rfl rfl rfl ?_
          refine AO.nil ?_
          refine AQ.thenN ?_
          refine AW.split rfl (fun h81 => ?_) (fun h81 => ?_) <;> (try simp only [decide_eq_true_eq, decide_eq_false_iff_not, beq_iff_eq, beq_eq_false_iff_ne, bne_iff_ne, bne_eq_false_iff_eq, Bool.not_eq_true', Bool.not_eq_false', Bool.not_eq_true, Bool.not_eq_false, ne_eq, Int.not_lt, Int.not_le, Bool.and_eq_true, Bool.or_eq_true, Bool.or_eq_false_iff, Bool.and_eq_false_imp, strOf_toList, Decidable.not_not] at h81)
          · skip
            have hi2 : inO m.code (oat m.opts k) = ⟨(oat m.opts k).num, []⟩ := if_pos h81
            rw [hi2] at hin
            refine AW.region ?_
            refine AO.op (O.fieldAddr rfl rfl) rfl rfl rfl ?_
            (refine AO.store (i := 0) rfl rfl rfl rfl rfl rfl (by rfl) (by rfl) (by rfl) (by (dsimp only [List.set, List.append, List.cons_append, List.nil_append, roB_cells, roI_cells, roO_cells, splice, ofConst, AV.cells, List.map, List.map_cons, List.map_nil, List.take, List.drop, Nat.zero_add, Nat.add_zero, Nat.reduceAdd, Nat.reduceMul, Nat.zero_mul, Value.cells, List.toList_toArray, zerosA, List.replicate, List.flatten, List.append_nil]; done)) (by (dsimp only [List.set, List.append, List.cons_append, List.nil_append, roB_cells, roI_cells, roO_cells, splice, ofConst, AV.cells, List.map, List.map_cons, List.map_nil, List.take, List.drop, Nat.zero_add, Nat.add_zero, Nat.reduceAdd, Nat.reduceMul, Nat.zero_mul, Value.cells, List.toList_toArray, zerosA, List.replicate, List.flatten, List.append_nil]; done)) ?_)
            refine AO.nil ?_
            refine AQ.thenN ?_
            refine AW.region ?_
            refine AO.op (O.fieldAddr rfl rfl) rfl rfl rfl ?_
            refine AO.op (O.load rfl rfl (by repeat (first | exact List.Mem.head _ | refine List.Mem.tail _ ?_)) (by rfl)) rfl rfl rfl ?_
            (refine AO.op (O.loadK rfl rfl (by repeat (exact List.Mem.head _)) (by (dsimp only [List.set, List.append, List.cons_append, List.nil_append, roB_cells, roI_cells, roO_cells, splice, ofConst, AV.cells, List.map, List.map_cons, List.map_nil, List.take, List.drop, Nat.zero_add, Nat.add_zero, Nat.reduceAdd, Nat.reduceMul, Nat.zero_mul, Value.cells, List.toList_toArray, zerosA, List.replicate, List.flatten, List.append_nil]; done)) (by rfl)) rfl rfl rfl ?_)
            refine AO.opB (O.buildSlice rfl rfl rfl (by rfl) (by rfl) (by rfl) (by rfl)) rfl rfl rfl ?_
            intro B8
            refine AO.g ?_
            (refine G.freezeSl 0 86 rfl rfl ⟨Nat.le_refl _, by unfold maxLen; omega⟩ ?_)
            refine G.unfull 86 rfl ?_
            refine AO.u ?_
            dsimp only [List.eraseIdx]
            (refine AO.append' (i := 2) rfl rfl rfl rfl (by rfl) (by rfl) rfl rfl rfl (by exact SrcA.ro TyD.ax (by rfl) (Nat.le_of_ble_eq_true rfl)) (by rfl) (by (unfold maxLen; omega)) (by omega) (by (dsimp only [List.set, List.append, List.cons_append, List.nil_append, roB_cells, roI_cells, roO_cells, splice, ofConst, AV.cells, List.map, List.map_cons, List.map_nil, List.take, List.drop, Nat.zero_add, Nat.add_zero, Nat.reduceAdd, Nat.reduceMul, Nat.zero_mul, Value.cells, List.toList_toArray, zerosA, List.replicate, List.flatten, List.append_nil]; done)) (fun _ => by (dsimp only [List.set]; done)) ?_)
            intro V9 hV9
            refine AO.op (O.fieldAddr rfl rfl) rfl rfl rfl ?_
            (refine AO.store (i := 4) rfl rfl rfl rfl rfl rfl (by (simp [AV.cells, AV.one, *]; done)) (by rfl) (by rfl) (by (dsimp only [List.set, List.append, List.cons_append, List.nil_append, roB_cells, roI_cells, roO_cells, splice, ofConst, AV.cells, List.map, List.map_cons, List.map_nil, List.take, List.drop, Nat.zero_add, Nat.add_zero, Nat.reduceAdd, Nat.reduceMul, Nat.zero_mul, Value.cells, List.toList_toArray, zerosA, List.replicate, List.flatten, List.append_nil]; done)) (by (dsimp only [List.set, List.append, List.cons_append, List.nil_append, roB_cells, roI_cells, roO_cells, splice, ofConst, AV.cells, List.map, List.map_cons, List.map_nil, List.take, List.drop, Nat.zero_add, Nat.add_zero, Nat.reduceAdd, Nat.reduceMul, Nat.zero_mul, Value.cells, List.toList_toArray, zerosA, List.replicate, List.flatten, List.append_nil]; done)) ?_)
            refine AO.nil ?_
            refine AQ.g ?_
            refine G.coeRow 2 _ (optsA (inL m.code (m.opts.take k)) ++ [.val (.int .i64 (oat m.opts k).num), roB []]) rfl rfl (CoeL.app CoeL.refl (CoeL.cons Coe.rfl (CoeL.cons Coe.nil CoeL.nil))) ?_
            refine AQ.u ?_
            refine AQ.midI _ _ (⟨_, ‹_›, rfl, by rw [hin, optsA_snoc, List.length_append]⟩) (by repeat (first | exact envNil | refine envCons rfl ?_)) (by repeat (exact envNil)) (by repeat (first | exact subPnil | refine subPcons 1 rfl ?_))
          · skip
            have hi2 : inO m.code (oat m.opts k) = oat m.opts k := if_neg (fun hh => by have := h81 hh.1; rw [hh.2] at this; cases this)
            rw [hi2] at hin
            refine AW.skip ?_
            refine AQ.thenN ?_
            refine AW.region ?_
            refine AO.op (O.fieldAddr rfl rfl) rfl rfl rfl ?_
            refine AO.op (O.load rfl rfl (by repeat (first | exact List.Mem.head _ | refine List.Mem.tail _ ?_)) (by rfl)) rfl rfl rfl ?_
            (refine AO.op (O.loadK rfl rfl (by repeat (exact List.Mem.head _)) (by (dsimp only [List.set, List.append, List.cons_append, List.nil_append, roB_cells, roI_cells, roO_cells, splice, ofConst, AV.cells, List.map, List.map_cons, List.map_nil, List.take, List.drop, Nat.zero_add, Nat.add_zero, Nat.reduceAdd, Nat.reduceMul, Nat.zero_mul, Value.cells, List.toList_toArray, zerosA, List.replicate, List.flatten, List.append_nil]; done)) (by rfl)) rfl rfl rfl ?_)
            refine AO.opB (O.buildSlice rfl rfl rfl (by rfl) (by rfl) (by rfl) (by rfl)) rfl rfl rfl ?_
            intro B10
            refine AO.g ?_
            (refine G.freezeSl 0 86 rfl rfl ⟨Nat.le_refl _, by unfold maxLen; omega⟩ ?_)
            refine G.unfull 86 rfl ?_
            refine AO.u ?_
            dsimp only [List.eraseIdx]
            (refine AO.append' (i := 2) rfl rfl rfl rfl (by rfl) (by rfl) rfl rfl rfl (by exact SrcA.ro TyD.ax (by rfl) (Nat.le_of_ble_eq_true rfl)) (by rfl) (by (unfold maxLen; omega)) (by omega) (by (dsimp only [List.set, List.append, List.cons_append, List.nil_append, roB_cells, roI_cells, roO_cells, splice, ofConst, AV.cells, List.map, List.map_cons, List.map_nil, List.take, List.drop, Nat.zero_add, Nat.add_zero, Nat.reduceAdd, Nat.reduceMul, Nat.zero_mul, Value.cells, List.toList_toArray, zerosA, List.replicate, List.flatten, List.append_nil]; done)) (fun _ => by (dsimp only [List.set]; done)) ?_)
            intro V11 hV11
            refine AO.op (O.fieldAddr rfl rfl) rfl rfl rfl ?_
            (refine AO.store (i := 4) rfl rfl rfl rfl rfl rfl (by (simp [AV.cells, AV.one, *]; done)) (by rfl) (by rfl) (by (dsimp only [List.set, List.append, List.cons_append, List.nil_append, roB_cells, roI_cells, roO_cells, splice, ofConst, AV.cells, List.map, List.map_cons, List.map_nil, List.take, List.drop, Nat.zero_add, Nat.add_zero, Nat.reduceAdd, Nat.reduceMul, Nat.zero_mul, Value.cells, List.toList_toArray, zerosA, List.replicate, List.flatten, List.append_nil]; done)) (by (dsimp only [List.set, List.append, List.cons_append, List.nil_append, roB_cells, roI_cells, roO_cells, splice, ofConst, AV.cells, List.map, List.map_cons, List.map_nil, List.take, List.drop, Nat.zero_add, Nat.add_zero, Nat.reduceAdd, Nat.reduceMul, Nat.zero_mul, Value.cells, List.toList_toArray, zerosA, List.replicate, List.flatten, List.append_nil]; done)) ?_)
            refine AO.nil ?_
            refine AQ.midI _ _ (⟨_, ‹_›, rfl, by rw [hin, optsA_snoc, List.length_append]⟩) (by repeat (first | exact envNil | refine envCons rfl ?_)) (by repeat (exact envNil)) (by repeat (first | exact subPnil | refine subPcons 1 rfl ?_))
        · skip
          rw [if_neg (by omega)] at hin
          refine AW.skip ?_
          refine AQ.midI _ _ (⟨V, hV, rfl, by rw [hin]⟩) (by repeat (first | exact envNil | refine envCons rfl ?_)) (by repeat (exact envNil)) (by repeat (first | exact subPnil | refine subPcons 0 rfl ?_))
        rintro E1 H1 ⟨W, hW, rfl, rfl⟩
        dsimp only [List.cons_append, List.nil_append]
        refine AQ.thenN ?_
        refine AW.seq ?_
        refine AW.seq ?_
        refine AW.region ?_
        refine AO.op (O.move rfl rfl) rfl rfl rfl ?_
        refine AO.op (O.eql rfl rfl rfl (by rfl)) rfl rfl rfl ?_
        refine AO.op (O.move rfl rfl) rfl rfl rfl ?_
        refine AO.opG rfl rfl rfl (fun hp => O.fieldAddr rfl rfl) ?_
        refine AO.opG rfl rfl rfl (fun hp => OpW.force 92 rfl (by exact hp) (O.load rfl rfl (by repeat (exact List.Mem.head _)) (by rfl))) ?_
        refine AO.opG rfl rfl rfl (fun hp => OpW.force 93 rfl (by exact hp) (O.eql rfl rfl rfl (by rfl))) ?_
        refine AO.op (O.pickOr rfl rfl rfl rfl (fun h => by exact congrArg (fun b => !b) h)) rfl rfl rfl ?_
        refine AO.nil ?_
        refine AQ.thenN ?_
        refine AW.joinI [(1, _), (2, _), (3, _), (7, _), (8, _), (9, _), (11, _), (50, _), (51, _), (52, _)] (fun E H => ∃ (W' : Value), (W'.oneCell' = true) ∧ E = [] ∧ H = [.blk B6 62 2 [.val (.int .i64 (oat m.opts k).num), roB (oat m.opts k).val], .row W 62 2 (inL m.code (m.opts.take (k + 1))).length (optsA (inL m.code (m.opts.take (k + 1)))), .row W' 62 2 (outL (m.opts.take (k + 1))).length (optsA (outL (m.opts.take (k + 1)))), .blk B4 29 6 [.val (.int .i64 0), .val (.int .i64 m.code), .val (.int .i64 0), .val (.slice none 0 0), .val W, roB m.pay], .blk B5 29 6 [.val (.int .i64 m.ty), .val (.int .i64 0), .val (.int .i64 m.id), roB m.tok, .val W', .val (.slice none 0 0)], .blk B3 29 6 [.val (.int .i64 0), .val (.int .i64 0), .val (.int .i64 0), .val (.slice none 0 0), .val (.slice none 0 0), .val (.slice none 0 0)], .blk B2 29 6 [.val (.int .i64 0), .val (.int .i64 0), .val (.int .i64 0), .val (.slice none 0 0), .val (.slice none 0 0), .val (.slice none 0 0)], .blk B1 29 6 [.val (.int .i64 m.ty), .val (.int .i64 m.code), .val (.int .i64 m.id), roB m.tok, roO m.opts, roB m.pay]]) rfl (by repeat (first | exact envNil | refine envCons rfl ?_)) (fun h95 => ?_) (fun h95 => ?_) ?_ <;> try (try simp only [decide_eq_true_eq, decide_eq_false_iff_not, beq_iff_eq, beq_eq_false_iff_ne, bne_iff_ne, bne_eq_false_iff_eq, Bool.not_eq_true', Bool.not_eq_false', Bool.not_eq_true, Bool.not_eq_false, ne_eq, Int.not_lt, Int.not_le, Bool.and_eq_true, Bool.or_eq_true, Bool.or_eq_false_iff, Bool.and_eq_false_imp, strOf_toList, Decidable.not_not] at h95)
        · skip
          rw [if_pos h95] at hou
          refine AW.regionD 5 (by kernel_rfl) (by kernel_rfl) ?_
          simp only [List.take_succ_cons, List.take_zero, List.drop_succ_cons, List.drop_zero]
          refine FA.op (O.fieldAddr rfl rfl) rfl rfl rfl rfl ?_
          refine FA.op (O.load rfl rfl (by repeat (first | exact List.Mem.head _ | refine List.Mem.tail _ ?_)) (by rfl)) rfl rfl rfl rfl ?_
          (refine FA.op (O.loadK rfl rfl (by repeat (exact List.Mem.head _)) (by (dsimp only [List.set, List.append, List.cons_append, List.nil_append, roB_cells, roI_cells, roO_cells, splice, ofConst, AV.cells, List.map, List.map_cons, List.map_nil, List.take, List.drop, Nat.zero_add, Nat.add_zero, Nat.reduceAdd, Nat.reduceMul, Nat.zero_mul, Value.cells, List.toList_toArray, zerosA, List.replicate, List.flatten, List.append_nil]; done)) (by rfl)) rfl rfl rfl rfl ?_)
          refine FA.op (O.call rfl Try.func44 rfl rfl rfl (copied_fn (oat m.opts k) hv4)) rfl rfl rfl rfl ?_
          refine FA.op (OpW.frz (O.buildSlice rfl rfl rfl (by rfl) (by rfl) (by rfl) (by rfl)) (by (unfold maxLen; omega))) rfl rfl rfl rfl ?_
          refine FA.nil ?_
          simp only [chosen, List.nil_append, List.cons_append, List.append_nil]
          (refine AO.append' (i := 2) rfl rfl rfl rfl (by rfl) (by rfl) rfl rfl rfl (by exact SrcA.ro TyD.ax (by rfl) (Nat.le_of_ble_eq_true rfl)) (by rfl) (by (unfold maxLen; omega)) (by omega) (by (dsimp only [List.set, List.append, List.cons_append, List.nil_append, roB_cells, roI_cells, roO_cells, splice, ofConst, AV.cells, List.map, List.map_cons, List.map_nil, List.take, List.drop, Nat.zero_add, Nat.add_zero, Nat.reduceAdd, Nat.reduceMul, Nat.zero_mul, Value.cells, List.toList_toArray, zerosA, List.replicate, List.flatten, List.append_nil]; done)) (fun _ => by (dsimp only [List.set]; done)) ?_)
          intro V12 hV12
          refine AO.op (O.fieldAddr rfl rfl) rfl rfl rfl ?_
          (refine AO.store (i := 4) rfl rfl rfl rfl rfl rfl (by (simp [AV.cells, AV.one, *]; done)) (by rfl) (by rfl) (by (dsimp only [List.set, List.append, List.cons_append, List.nil_append, roB_cells, roI_cells, roO_cells, splice, ofConst, AV.cells, List.map, List.map_cons, List.map_nil, List.take, List.drop, Nat.zero_add, Nat.add_zero, Nat.reduceAdd, Nat.reduceMul, Nat.zero_mul, Value.cells, List.toList_toArray, zerosA, List.replicate, List.flatten, List.append_nil]; done)) (by (dsimp only [List.set, List.append, List.cons_append, List.nil_append, roB_cells, roI_cells, roO_cells, splice, ofConst, AV.cells, List.map, List.map_cons, List.map_nil, List.take, List.drop, Nat.zero_add, Nat.add_zero, Nat.reduceAdd, Nat.reduceMul, Nat.zero_mul, Value.cells, List.toList_toArray, zerosA, List.replicate, List.flatten, List.append_nil]; done)) ?_)
          refine AO.nil ?_
          refine AQ.midI _ _ (⟨_, ‹_›, rfl, by rw [hou, optsA_snoc, List.length_append]⟩) (by repeat (first | exact envNil | refine envCons rfl ?_)) (by repeat (exact envNil)) (by repeat (first | exact subPnil | refine subPcons 0 rfl ?_))
        · skip
          rw [if_neg (by omega)] at hou
          refine AW.skip ?_
          refine AQ.midI _ _ (⟨V', hV', rfl, by rw [hou]⟩) (by repeat (first | exact envNil | refine envCons rfl ?_)) (by repeat (exact envNil)) (by repeat (first | exact subPnil | refine subPcons 0 rfl ?_))
        rintro E1 H1 ⟨W', hW', rfl, rfl⟩
        dsimp only [List.cons_append, List.nil_append]
        refine AQ.thenN ?_
        refine AW.region ?_
        refine AO.op (O.move rfl rfl) rfl rfl rfl ?_
        refine AO.op (O.move rfl rfl) rfl rfl rfl ?_
        refine AO.opG rfl rfl rfl (fun hp => O.fieldAddr rfl rfl) ?_
        refine AO.opG rfl rfl rfl (fun hp => OpW.force 105 rfl (by exact hp) (O.load rfl rfl (by repeat (exact List.Mem.head _)) (by rfl))) ?_
        refine AO.opG rfl rfl rfl (fun hp => OpW.force 106 rfl (by exact hp) (O.eql rfl rfl rfl (by rfl))) ?_
        refine AO.op (O.pickOr rfl rfl rfl rfl (fun h => by exact congrArg (fun b => !b) h)) rfl rfl rfl ?_
        refine AO.op (O.assign rfl rfl) rfl rfl rfl ?_
        refine AO.nil ?_
        refine AQ.blockN ?_
        refine AQ.thenN ?_
        refine AW.region ?_
        refine AO.op (O.add rfl rfl rfl (by exact wI64 (by omega))) rfl rfl rfl ?_
        refine AO.op (O.move rfl rfl) rfl rfl rfl ?_
        refine AO.nil ?_
        refine AQ.loopKN _ _ _ (by omega) (⟨k + 1, W, W', by omega, hW, hW', hb', rfl, by rw [hw'], rfl⟩) (by repeat (first | exact envNil | refine envCons rfl ?_)) (by repeat (first | exact envNil | refine envCons rfl ?_)) (by repeat (first | exact subPnil | refine subPcons 1 rfl ?_))
    · skip
      obtain rfl : k = m.opts.length := by omega
      rw [List.take_length] at hb hl1 hl2 ⊢
      have hnb : ¬ badB m.opts = true := by rw [hb]; simp
      have e0 : splitR m = (inM m, outM m, 0) := by rw [splitR, if_pos ⟨hv, hc⟩, if_neg hnb]
      refine AW.g ?_
      refine G.freezeCell 0 1 4 rfl rfl rfl ?_
      refine AW.u ?_
      refine AW.g ?_
      refine G.freezeCell 0 1 4 rfl rfl rfl ?_
      refine AW.u ?_
      refine AW.exit ?_
      refine AQ.thenX ?_
      refine AQ.loopX ?_
      refine AQ.blockX rfl ?_
      refine AQ.thenN ?_
      refine AW.seq ?_
      refine AW.block ?_
      refine AW.seq ?_
      refine AW.region ?_
      refine AO.op (O.fieldAddr rfl rfl) rfl rfl rfl ?_
      refine AO.op (O.load rfl rfl (by repeat (first | exact List.Mem.head _ | refine List.Mem.tail _ ?_)) (by rfl)) rfl rfl rfl ?_
      refine AO.op (O.call rfl Try.func42 rfl rfl rfl (sreq_fn m.code)) rfl rfl rfl ?_
      refine AO.op (O.move rfl rfl) rfl rfl rfl ?_
      refine AO.opG rfl rfl rfl (fun hp => O.move rfl rfl) ?_
      refine AO.op (O.pickAnd rfl rfl rfl rfl (fun h => by exact h)) rfl rfl rfl ?_
      refine AO.op (O.assign rfl rfl) rfl rfl rfl ?_
      refine AO.nil ?_
      refine AQ.thenN ?_
      refine AW.split rfl (fun ha => ?_) (fun ha => ?_) <;> (try simp only [decide_eq_true_eq, decide_eq_false_iff_not, beq_iff_eq, beq_eq_false_iff_ne, bne_iff_ne, bne_eq_false_iff_eq, Bool.not_eq_true', Bool.not_eq_false', Bool.not_eq_true, Bool.not_eq_false, ne_eq, Int.not_lt, Int.not_le, Bool.and_eq_true, Bool.or_eq_true, Bool.or_eq_false_iff, Bool.and_eq_false_imp, strOf_toList, Decidable.not_not] at ha)
      · skip
        have e1 : outC m = 5 := by rw [outC, if_pos ha.1, if_pos ha.2]
        have e : splitR m = (inM m, ⟨m.ty, 5, m.id, m.tok, outL m.opts, []⟩, 0) := by rw [e0, outM, e1]
        refine AW.region ?_
        refine AO.op (O.fieldAddr rfl rfl) rfl rfl rfl ?_
        (refine AO.store (i := 1) rfl rfl rfl rfl rfl rfl (by rfl) (by rfl) (by rfl) (by (dsimp only [List.set, List.append, List.cons_append, List.nil_append, roB_cells, roI_cells, roO_cells, splice, ofConst, AV.cells, List.map, List.map_cons, List.map_nil, List.take, List.drop, Nat.zero_add, Nat.add_zero, Nat.reduceAdd, Nat.reduceMul, Nat.zero_mul, Value.cells, List.toList_toArray, zerosA, List.replicate, List.flatten, List.append_nil]; done)) (by (dsimp only [List.set, List.append, List.cons_append, List.nil_append, roB_cells, roI_cells, roO_cells, splice, ofConst, AV.cells, List.map, List.map_cons, List.map_nil, List.take, List.drop, Nat.zero_add, Nat.add_zero, Nat.reduceAdd, Nat.reduceMul, Nat.zero_mul, Value.cells, List.toList_toArray, zerosA, List.replicate, List.flatten, List.append_nil]; done)) ?_)
        refine AO.nil ?_
        refine AQ.blockN ?_
        refine AQ.thenN ?_
        refine AW.seq ?_
        refine AW.regionM [(0, false), (1, false), (2, true), (3, true), (4, false)] (by kernel_rfl) (by kernel_rfl) (by exact (by exact splitBlk 2 3 rfl rfl (by exact splitBlk 3 2 rfl rfl splitNil))) ?_
        dsimp only [List.eraseIdx]
        (refine AM.op rfl (O.loadK rfl rfl (by repeat (exact List.Mem.head _)) (by (dsimp only [List.set, List.append, List.cons_append, List.nil_append, roB_cells, roI_cells, roO_cells, splice, ofConst, AV.cells, List.map, List.map_cons, List.map_nil, List.take, List.drop, Nat.zero_add, Nat.add_zero, Nat.reduceAdd, Nat.reduceMul, Nat.zero_mul, Value.cells, List.toList_toArray, zerosA, List.replicate, List.flatten, List.append_nil]; done)) (by rfl)) rfl rfl rfl ?_)
        (refine AM.op rfl (O.loadK rfl rfl (by repeat (first | exact List.Mem.head _ | refine List.Mem.tail _ ?_)) (by (dsimp only [List.set, List.append, List.cons_append, List.nil_append, roB_cells, roI_cells, roO_cells, splice, ofConst, AV.cells, List.map, List.map_cons, List.map_nil, List.take, List.drop, Nat.zero_add, Nat.add_zero, Nat.reduceAdd, Nat.reduceMul, Nat.zero_mul, Value.cells, List.toList_toArray, zerosA, List.replicate, List.flatten, List.append_nil]; done)) (by rfl)) rfl rfl rfl ?_)
        refine AM.main _ rfl (fun w0 R0 => ?_)
        (refine AO.store (i := 0) rfl rfl rfl rfl rfl rfl (by rfl) (by rfl) (by rfl) (by (dsimp only [List.set, List.append, List.cons_append, List.nil_append, roB_cells, roI_cells, roO_cells, splice, ofConst, AV.cells, List.map, List.map_cons, List.map_nil, List.take, List.drop, Nat.zero_add, Nat.add_zero, Nat.reduceAdd, Nat.reduceMul, Nat.zero_mul, Value.cells, List.toList_toArray, zerosA, List.replicate, List.flatten, List.append_nil]; done)) (by (dsimp only [List.set, List.append, List.cons_append, List.nil_append, roB_cells, roI_cells, roO_cells, splice, ofConst, AV.cells, List.map, List.map_cons, List.map_nil, List.take, List.drop, Nat.zero_add, Nat.add_zero, Nat.reduceAdd, Nat.reduceMul, Nat.zero_mul, Value.cells, List.toList_toArray, zerosA, List.replicate, List.flatten, List.append_nil]; done)) ?_)
        refine AM.okN ?_
        dsimp only [putE]
        refine AM.main _ rfl (fun w0 R0 => ?_)
        (refine AO.store (i := 1) rfl rfl rfl rfl rfl rfl (by rfl) (by rfl) (by rfl) (by (dsimp only [List.set, List.append, List.cons_append, List.nil_append, roB_cells, roI_cells, roO_cells, splice, ofConst, AV.cells, List.map, List.map_cons, List.map_nil, List.take, List.drop, Nat.zero_add, Nat.add_zero, Nat.reduceAdd, Nat.reduceMul, Nat.zero_mul, Value.cells, List.toList_toArray, zerosA, List.replicate, List.flatten, List.append_nil]; done)) (by (dsimp only [List.set, List.append, List.cons_append, List.nil_append, roB_cells, roI_cells, roO_cells, splice, ofConst, AV.cells, List.map, List.map_cons, List.map_nil, List.take, List.drop, Nat.zero_add, Nat.add_zero, Nat.reduceAdd, Nat.reduceMul, Nat.zero_mul, Value.cells, List.toList_toArray, zerosA, List.replicate, List.flatten, List.append_nil]; done)) ?_)
        refine AM.okN ?_
        dsimp only [putE]
        refine AM.op rfl (O.assign rfl rfl) rfl rfl rfl ?_
        refine AM.nil ?_
        dsimp only [List.cons_append, List.nil_append]
        refine AQ.thenN ?_
        refine AW.ret ?_
        refine FnQ.coe (AQ.ret3G rfl (by exact ResAt.cell rfl (by repeat (exact List.Mem.head _)) (by (dsimp only [List.set, List.append, List.cons_append, List.nil_append, roB_cells, roI_cells, roO_cells, splice, ofConst, AV.cells, List.map, List.map_cons, List.map_nil, List.take, List.drop, Nat.zero_add, Nat.add_zero, Nat.reduceAdd, Nat.reduceMul, Nat.zero_mul, Value.cells, List.toList_toArray, zerosA, List.replicate, List.flatten, List.append_nil]; done)) (by rfl)) (by exact ResAt.cell rfl (by repeat (first | exact List.Mem.head _ | refine List.Mem.tail _ ?_)) (by (dsimp only [List.set, List.append, List.cons_append, List.nil_append, roB_cells, roI_cells, roO_cells, splice, ofConst, AV.cells, List.map, List.map_cons, List.map_nil, List.take, List.drop, Nat.zero_add, Nat.add_zero, Nat.reduceAdd, Nat.reduceMul, Nat.zero_mul, Value.cells, List.toList_toArray, zerosA, List.replicate, List.flatten, List.append_nil]; done)) (by rfl)) (by exact ResAt.tmp rfl) ⟨_, List.nil_sublist _, .nil⟩ ⟨rfl, rfl⟩) (Coe.tup (by (repeat (first | exact CoeL.nil | refine CoeL.cons Coe.rfl ?_ | refine CoeL.cons Coe.nil ?_ | refine CoeL.cons (Coe.agg ?_) ?_)); done)) (ret3M e)
      · skip
        refine AW.seq ?_
        refine AW.region ?_
        refine AO.op (O.fieldAddr rfl rfl) rfl rfl rfl ?_
        refine AO.op (O.load rfl rfl (by repeat (first | exact List.Mem.head _ | refine List.Mem.tail _ ?_)) (by rfl)) rfl rfl rfl ?_
        refine AO.op (O.call rfl Try.func42 rfl rfl rfl (sreq_fn m.code)) rfl rfl rfl ?_
        refine AO.op (O.assign rfl rfl) rfl rfl rfl ?_
        refine AO.nil ?_
        refine AQ.thenN ?_
        refine AW.split rfl (fun hd => ?_) (fun hd => ?_) <;> (try simp only [decide_eq_true_eq, decide_eq_false_iff_not, beq_iff_eq, beq_eq_false_iff_ne, bne_iff_ne, bne_eq_false_iff_eq, Bool.not_eq_true', Bool.not_eq_false', Bool.not_eq_true, Bool.not_eq_false, ne_eq, Int.not_lt, Int.not_le, Bool.and_eq_true, Bool.or_eq_true, Bool.or_eq_false_iff, Bool.and_eq_false_imp, strOf_toList, Decidable.not_not] at hd)
        · skip
          have e1 : outC m = 2 := by rw [outC, if_pos hd, if_neg (by rw [ha hd]; simp)]
          have e : splitR m = (inM m, ⟨m.ty, 2, m.id, m.tok, outL m.opts, []⟩, 0) := by rw [e0, outM, e1]
          refine AW.region ?_
          refine AO.op (O.fieldAddr rfl rfl) rfl rfl rfl ?_
          (refine AO.store (i := 1) rfl rfl rfl rfl rfl rfl (by rfl) (by rfl) (by rfl) (by (dsimp only [List.set, List.append, List.cons_append, List.nil_append, roB_cells, roI_cells, roO_cells, splice, ofConst, AV.cells, List.map, List.map_cons, List.map_nil, List.take, List.drop, Nat.zero_add, Nat.add_zero, Nat.reduceAdd, Nat.reduceMul, Nat.zero_mul, Value.cells, List.toList_toArray, zerosA, List.replicate, List.flatten, List.append_nil]; done)) (by (dsimp only [List.set, List.append, List.cons_append, List.nil_append, roB_cells, roI_cells, roO_cells, splice, ofConst, AV.cells, List.map, List.map_cons, List.map_nil, List.take, List.drop, Nat.zero_add, Nat.add_zero, Nat.reduceAdd, Nat.reduceMul, Nat.zero_mul, Value.cells, List.toList_toArray, zerosA, List.replicate, List.flatten, List.append_nil]; done)) ?_)
          refine AO.nil ?_
          refine AQ.blockN ?_
          refine AQ.thenN ?_
          refine AW.seq ?_
          refine AW.regionM [(0, false), (1, false), (2, true), (3, true), (4, false)] (by kernel_rfl) (by kernel_rfl) (by exact (by exact splitBlk 2 3 rfl rfl (by exact splitBlk 3 2 rfl rfl splitNil))) ?_
          dsimp only [List.eraseIdx]
          (refine AM.op rfl (O.loadK rfl rfl (by repeat (exact List.Mem.head _)) (by (dsimp only [List.set, List.append, List.cons_append, List.nil_append, roB_cells, roI_cells, roO_cells, splice, ofConst, AV.cells, List.map, List.map_cons, List.map_nil, List.take, List.drop, Nat.zero_add, Nat.add_zero, Nat.reduceAdd, Nat.reduceMul, Nat.zero_mul, Value.cells, List.toList_toArray, zerosA, List.replicate, List.flatten, List.append_nil]; done)) (by rfl)) rfl rfl rfl ?_)
          (refine AM.op rfl (O.loadK rfl rfl (by repeat (first | exact List.Mem.head _ | refine List.Mem.tail _ ?_)) (by (dsimp only [List.set, List.append, List.cons_append, List.nil_append, roB_cells, roI_cells, roO_cells, splice, ofConst, AV.cells, List.map, List.map_cons, List.map_nil, List.take, List.drop, Nat.zero_add, Nat.add_zero, Nat.reduceAdd, Nat.reduceMul, Nat.zero_mul, Value.cells, List.toList_toArray, zerosA, List.replicate, List.flatten, List.append_nil]; done)) (by rfl)) rfl rfl rfl ?_)
          refine AM.main _ rfl (fun w0 R0 => ?_)
          (refine AO.store (i := 0) rfl rfl rfl rfl rfl rfl (by rfl) (by rfl) (by rfl) (by (dsimp only [List.set, List.append, List.cons_append, List.nil_append, roB_cells, roI_cells, roO_cells, splice, ofConst, AV.cells, List.map, List.map_cons, List.map_nil, List.take, List.drop, Nat.zero_add, Nat.add_zero, Nat.reduceAdd, Nat.reduceMul, Nat.zero_mul, Value.cells, List.toList_toArray, zerosA, List.replicate, List.flatten, List.append_nil]; done)) (by (dsimp only [List.set, List.append, List.cons_append, List.nil_append, roB_cells, roI_cells, roO_cells, splice, ofConst, AV.cells, List.map, List.map_cons, List.map_nil, List.take, List.drop, Nat.zero_add, Nat.add_zero, Nat.reduceAdd, Nat.reduceMul, Nat.zero_mul, Value.cells, List.toList_toArray, zerosA, List.replicate, List.flatten, List.append_nil]; done)) ?_)
          refine AM.okN ?_
          dsimp only [putE]
          refine AM.main _ rfl (fun w0 R0 => ?_)
          (refine AO.store (i := 1) rfl rfl rfl rfl rfl rfl (by rfl) (by rfl) (by rfl) (by (dsimp only [List.set, List.append, List.cons_append, List.nil_append, roB_cells, roI_cells, roO_cells, splice, ofConst, AV.cells, List.map, List.map_cons, List.map_nil, List.take, List.drop, Nat.zero_add, Nat.add_zero, Nat.reduceAdd, Nat.reduceMul, Nat.zero_mul, Value.cells, List.toList_toArray, zerosA, List.replicate, List.flatten, List.append_nil]; done)) (by (dsimp only [List.set, List.append, List.cons_append, List.nil_append, roB_cells, roI_cells, roO_cells, splice, ofConst, AV.cells, List.map, List.map_cons, List.map_nil, List.take, List.drop, Nat.zero_add, Nat.add_zero, Nat.reduceAdd, Nat.reduceMul, Nat.zero_mul, Value.cells, List.toList_toArray, zerosA, List.replicate, List.flatten, List.append_nil]; done)) ?_)
          refine AM.okN ?_
          dsimp only [putE]
          refine AM.op rfl (O.assign rfl rfl) rfl rfl rfl ?_
          refine AM.nil ?_
          dsimp only [List.cons_append, List.nil_append]
          refine AQ.thenN ?_
          refine AW.ret ?_
          refine FnQ.coe (AQ.ret3G rfl (by exact ResAt.cell rfl (by repeat (exact List.Mem.head _)) (by (dsimp only [List.set, List.append, List.cons_append, List.nil_append, roB_cells, roI_cells, roO_cells, splice, ofConst, AV.cells, List.map, List.map_cons, List.map_nil, List.take, List.drop, Nat.zero_add, Nat.add_zero, Nat.reduceAdd, Nat.reduceMul, Nat.zero_mul, Value.cells, List.toList_toArray, zerosA, List.replicate, List.flatten, List.append_nil]; done)) (by rfl)) (by exact ResAt.cell rfl (by repeat (first | exact List.Mem.head _ | refine List.Mem.tail _ ?_)) (by (dsimp only [List.set, List.append, List.cons_append, List.nil_append, roB_cells, roI_cells, roO_cells, splice, ofConst, AV.cells, List.map, List.map_cons, List.map_nil, List.take, List.drop, Nat.zero_add, Nat.add_zero, Nat.reduceAdd, Nat.reduceMul, Nat.zero_mul, Value.cells, List.toList_toArray, zerosA, List.replicate, List.flatten, List.append_nil]; done)) (by rfl)) (by exact ResAt.tmp rfl) ⟨_, List.nil_sublist _, .nil⟩ ⟨rfl, rfl⟩) (Coe.tup (by (repeat (first | exact CoeL.nil | refine CoeL.cons Coe.rfl ?_ | refine CoeL.cons Coe.nil ?_ | refine CoeL.cons (Coe.agg ?_) ?_)); done)) (ret3M e)
        · skip
          refine AW.seq ?_
          refine AW.region ?_
          refine AO.op (O.move rfl rfl) rfl rfl rfl ?_
          refine AO.op (O.assign rfl rfl) rfl rfl rfl ?_
          refine AO.nil ?_
          refine AQ.thenN ?_
          refine AW.split rfl (fun hf => ?_) (fun hf => ?_) <;> (try simp only [decide_eq_true_eq, decide_eq_false_iff_not, beq_iff_eq, beq_eq_false_iff_ne, bne_iff_ne, bne_eq_false_iff_eq, Bool.not_eq_true', Bool.not_eq_false', Bool.not_eq_true, Bool.not_eq_false, ne_eq, Int.not_lt, Int.not_le, Bool.and_eq_true, Bool.or_eq_true, Bool.or_eq_false_iff, Bool.and_eq_false_imp, strOf_toList, Decidable.not_not] at hf)
          · skip
            have e1 : outC m = 69 := by rw [outC, if_neg (by rw [hd]; simp), if_pos hf]
            have e : splitR m = (inM m, ⟨m.ty, 69, m.id, m.tok, outL m.opts, []⟩, 0) := by rw [e0, outM, e1]
            refine AW.region ?_
            refine AO.op (O.fieldAddr rfl rfl) rfl rfl rfl ?_
            (refine AO.store (i := 1) rfl rfl rfl rfl rfl rfl (by rfl) (by rfl) (by rfl) (by (dsimp only [List.set, List.append, List.cons_append, List.nil_append, roB_cells, roI_cells, roO_cells, splice, ofConst, AV.cells, List.map, List.map_cons, List.map_nil, List.take, List.drop, Nat.zero_add, Nat.add_zero, Nat.reduceAdd, Nat.reduceMul, Nat.zero_mul, Value.cells, List.toList_toArray, zerosA, List.replicate, List.flatten, List.append_nil]; done)) (by (dsimp only [List.set, List.append, List.cons_append, List.nil_append, roB_cells, roI_cells, roO_cells, splice, ofConst, AV.cells, List.map, List.map_cons, List.map_nil, List.take, List.drop, Nat.zero_add, Nat.add_zero, Nat.reduceAdd, Nat.reduceMul, Nat.zero_mul, Value.cells, List.toList_toArray, zerosA, List.replicate, List.flatten, List.append_nil]; done)) ?_)
            refine AO.nil ?_
            refine AQ.blockN ?_
            refine AQ.thenN ?_
            refine AW.seq ?_
            refine AW.regionM [(0, false), (1, false), (2, true), (3, true), (4, false)] (by kernel_rfl) (by kernel_rfl) (by exact (by exact splitBlk 2 3 rfl rfl (by exact splitBlk 3 2 rfl rfl splitNil))) ?_
            dsimp only [List.eraseIdx]
            (refine AM.op rfl (O.loadK rfl rfl (by repeat (exact List.Mem.head _)) (by (dsimp only [List.set, List.append, List.cons_append, List.nil_append, roB_cells, roI_cells, roO_cells, splice, ofConst, AV.cells, List.map, List.map_cons, List.map_nil, List.take, List.drop, Nat.zero_add, Nat.add_zero, Nat.reduceAdd, Nat.reduceMul, Nat.zero_mul, Value.cells, List.toList_toArray, zerosA, List.replicate, List.flatten, List.append_nil]; done)) (by rfl)) rfl rfl rfl ?_)
            (refine AM.op rfl (O.loadK rfl rfl (by repeat (first | exact List.Mem.head _ | refine List.Mem.tail _ ?_)) (by (dsimp only [List.set, List.append, List.cons_append, List.nil_append, roB_cells, roI_cells, roO_cells, splice, ofConst, AV.cells, List.map, List.map_cons, List.map_nil, List.take, List.drop, Nat.zero_add, Nat.add_zero, Nat.reduceAdd, Nat.reduceMul, Nat.zero_mul, Value.cells, List.toList_toArray, zerosA, List.replicate, List.flatten, List.append_nil]; done)) (by rfl)) rfl rfl rfl ?_)
            refine AM.main _ rfl (fun w0 R0 => ?_)
            (refine AO.store (i := 0) rfl rfl rfl rfl rfl rfl (by rfl) (by rfl) (by rfl) (by (dsimp only [List.set, List.append, List.cons_append, List.nil_append, roB_cells, roI_cells, roO_cells, splice, ofConst, AV.cells, List.map, List.map_cons, List.map_nil, List.take, List.drop, Nat.zero_add, Nat.add_zero, Nat.reduceAdd, Nat.reduceMul, Nat.zero_mul, Value.cells, List.toList_toArray, zerosA, List.replicate, List.flatten, List.append_nil]; done)) (by (dsimp only [List.set, List.append, List.cons_append, List.nil_append, roB_cells, roI_cells, roO_cells, splice, ofConst, AV.cells, List.map, List.map_cons, List.map_nil, List.take, List.drop, Nat.zero_add, Nat.add_zero, Nat.reduceAdd, Nat.reduceMul, Nat.zero_mul, Value.cells, List.toList_toArray, zerosA, List.replicate, List.flatten, List.append_nil]; done)) ?_)
            refine AM.okN ?_
            dsimp only [putE]
            refine AM.main _ rfl (fun w0 R0 => ?_)
            (refine AO.store (i := 1) rfl rfl rfl rfl rfl rfl (by rfl) (by rfl) (by rfl) (by (dsimp only [List.set, List.append, List.cons_append, List.nil_append, roB_cells, roI_cells, roO_cells, splice, ofConst, AV.cells, List.map, List.map_cons, List.map_nil, List.take, List.drop, Nat.zero_add, Nat.add_zero, Nat.reduceAdd, Nat.reduceMul, Nat.zero_mul, Value.cells, List.toList_toArray, zerosA, List.replicate, List.flatten, List.append_nil]; done)) (by (dsimp only [List.set, List.append, List.cons_append, List.nil_append, roB_cells, roI_cells, roO_cells, splice, ofConst, AV.cells, List.map, List.map_cons, List.map_nil, List.take, List.drop, Nat.zero_add, Nat.add_zero, Nat.reduceAdd, Nat.reduceMul, Nat.zero_mul, Value.cells, List.toList_toArray, zerosA, List.replicate, List.flatten, List.append_nil]; done)) ?_)
            refine AM.okN ?_
            dsimp only [putE]
            refine AM.op rfl (O.assign rfl rfl) rfl rfl rfl ?_
            refine AM.nil ?_
            dsimp only [List.cons_append, List.nil_append]
            refine AQ.thenN ?_
            refine AW.ret ?_
            refine FnQ.coe (AQ.ret3G rfl (by exact ResAt.cell rfl (by repeat (exact List.Mem.head _)) (by (dsimp only [List.set, List.append, List.cons_append, List.nil_append, roB_cells, roI_cells, roO_cells, splice, ofConst, AV.cells, List.map, List.map_cons, List.map_nil, List.take, List.drop, Nat.zero_add, Nat.add_zero, Nat.reduceAdd, Nat.reduceMul, Nat.zero_mul, Value.cells, List.toList_toArray, zerosA, List.replicate, List.flatten, List.append_nil]; done)) (by rfl)) (by exact ResAt.cell rfl (by repeat (first | exact List.Mem.head _ | refine List.Mem.tail _ ?_)) (by (dsimp only [List.set, List.append, List.cons_append, List.nil_append, roB_cells, roI_cells, roO_cells, splice, ofConst, AV.cells, List.map, List.map_cons, List.map_nil, List.take, List.drop, Nat.zero_add, Nat.add_zero, Nat.reduceAdd, Nat.reduceMul, Nat.zero_mul, Value.cells, List.toList_toArray, zerosA, List.replicate, List.flatten, List.append_nil]; done)) (by rfl)) (by exact ResAt.tmp rfl) ⟨_, List.nil_sublist _, .nil⟩ ⟨rfl, rfl⟩) (Coe.tup (by (repeat (first | exact CoeL.nil | refine CoeL.cons Coe.rfl ?_ | refine CoeL.cons Coe.nil ?_ | refine CoeL.cons (Coe.agg ?_) ?_)); done)) (ret3M e)
          · skip
            have e1 : outC m = 68 := by rw [outC, if_neg (by rw [hd]; simp), if_neg (by rw [hf]; simp)]
            have e : splitR m = (inM m, ⟨m.ty, 68, m.id, m.tok, outL m.opts, []⟩, 0) := by rw [e0, outM, e1]
            refine AW.region ?_
            refine AO.op (O.fieldAddr rfl rfl) rfl rfl rfl ?_
            (refine AO.store (i := 1) rfl rfl rfl rfl rfl rfl (by rfl) (by rfl) (by rfl) (by (dsimp only [List.set, List.append, List.cons_append, List.nil_append, roB_cells, roI_cells, roO_cells, splice, ofConst, AV.cells, List.map, List.map_cons, List.map_nil, List.take, List.drop, Nat.zero_add, Nat.add_zero, Nat.reduceAdd, Nat.reduceMul, Nat.zero_mul, Value.cells, List.toList_toArray, zerosA, List.replicate, List.flatten, List.append_nil]; done)) (by (dsimp only [List.set, List.append, List.cons_append, List.nil_append, roB_cells, roI_cells, roO_cells, splice, ofConst, AV.cells, List.map, List.map_cons, List.map_nil, List.take, List.drop, Nat.zero_add, Nat.add_zero, Nat.reduceAdd, Nat.reduceMul, Nat.zero_mul, Value.cells, List.toList_toArray, zerosA, List.replicate, List.flatten, List.append_nil]; done)) ?_)
            refine AO.nil ?_
            refine AQ.blockN ?_
            refine AQ.thenN ?_
            refine AW.seq ?_
            refine AW.regionM [(0, false), (1, false), (2, true), (3, true), (4, false)] (by kernel_rfl) (by kernel_rfl) (by exact (by exact splitBlk 2 3 rfl rfl (by exact splitBlk 3 2 rfl rfl splitNil))) ?_
            dsimp only [List.eraseIdx]
            (refine AM.op rfl (O.loadK rfl rfl (by repeat (exact List.Mem.head _)) (by (dsimp only [List.set, List.append, List.cons_append, List.nil_append, roB_cells, roI_cells, roO_cells, splice, ofConst, AV.cells, List.map, List.map_cons, List.map_nil, List.take, List.drop, Nat.zero_add, Nat.add_zero, Nat.reduceAdd, Nat.reduceMul, Nat.zero_mul, Value.cells, List.toList_toArray, zerosA, List.replicate, List.flatten, List.append_nil]; done)) (by rfl)) rfl rfl rfl ?_)
            (refine AM.op rfl (O.loadK rfl rfl (by repeat (first | exact List.Mem.head _ | refine List.Mem.tail _ ?_)) (by (dsimp only [List.set, List.append, List.cons_append, List.nil_append, roB_cells, roI_cells, roO_cells, splice, ofConst, AV.cells, List.map, List.map_cons, List.map_nil, List.take, List.drop, Nat.zero_add, Nat.add_zero, Nat.reduceAdd, Nat.reduceMul, Nat.zero_mul, Value.cells, List.toList_toArray, zerosA, List.replicate, List.flatten, List.append_nil]; done)) (by rfl)) rfl rfl rfl ?_)
            refine AM.main _ rfl (fun w0 R0 => ?_)
            (refine AO.store (i := 0) rfl rfl rfl rfl rfl rfl (by rfl) (by rfl) (by rfl) (by (dsimp only [List.set, List.append, List.cons_append, List.nil_append, roB_cells, roI_cells, roO_cells, splice, ofConst, AV.cells, List.map, List.map_cons, List.map_nil, List.take, List.drop, Nat.zero_add, Nat.add_zero, Nat.reduceAdd, Nat.reduceMul, Nat.zero_mul, Value.cells, List.toList_toArray, zerosA, List.replicate, List.flatten, List.append_nil]; done)) (by (dsimp only [List.set, List.append, List.cons_append, List.nil_append, roB_cells, roI_cells, roO_cells, splice, ofConst, AV.cells, List.map, List.map_cons, List.map_nil, List.take, List.drop, Nat.zero_add, Nat.add_zero, Nat.reduceAdd, Nat.reduceMul, Nat.zero_mul, Value.cells, List.toList_toArray, zerosA, List.replicate, List.flatten, List.append_nil]; done)) ?_)
            refine AM.okN ?_
            dsimp only [putE]
            refine AM.main _ rfl (fun w0 R0 => ?_)
            (refine AO.store (i := 1) rfl rfl rfl rfl rfl rfl (by rfl) (by rfl) (by rfl) (by (dsimp only [List.set, List.append, List.cons_append, List.nil_append, roB_cells, roI_cells, roO_cells, splice, ofConst, AV.cells, List.map, List.map_cons, List.map_nil, List.take, List.drop, Nat.zero_add, Nat.add_zero, Nat.reduceAdd, Nat.reduceMul, Nat.zero_mul, Value.cells, List.toList_toArray, zerosA, List.replicate, List.flatten, List.append_nil]; done)) (by (dsimp only [List.set, List.append, List.cons_append, List.nil_append, roB_cells, roI_cells, roO_cells, splice, ofConst, AV.cells, List.map, List.map_cons, List.map_nil, List.take, List.drop, Nat.zero_add, Nat.add_zero, Nat.reduceAdd, Nat.reduceMul, Nat.zero_mul, Value.cells, List.toList_toArray, zerosA, List.replicate, List.flatten, List.append_nil]; done)) ?_)
            refine AM.okN ?_
            dsimp only [putE]
            refine AM.op rfl (O.assign rfl rfl) rfl rfl rfl ?_
            refine AM.nil ?_
            dsimp only [List.cons_append, List.nil_append]
            refine AQ.thenN ?_
            refine AW.ret ?_
            refine FnQ.coe (AQ.ret3G rfl (by exact ResAt.cell rfl (by repeat (exact List.Mem.head _)) (by (dsimp only [List.set, List.append, List.cons_append, List.nil_append, roB_cells, roI_cells, roO_cells, splice, ofConst, AV.cells, List.map, List.map_cons, List.map_nil, List.take, List.drop, Nat.zero_add, Nat.add_zero, Nat.reduceAdd, Nat.reduceMul, Nat.zero_mul, Value.cells, List.toList_toArray, zerosA, List.replicate, List.flatten, List.append_nil]; done)) (by rfl)) (by exact ResAt.cell rfl (by repeat (first | exact List.Mem.head _ | refine List.Mem.tail _ ?_)) (by (dsimp only [List.set, List.append, List.cons_append, List.nil_append, roB_cells, roI_cells, roO_cells, splice, ofConst, AV.cells, List.map, List.map_cons, List.map_nil, List.take, List.drop, Nat.zero_add, Nat.add_zero, Nat.reduceAdd, Nat.reduceMul, Nat.zero_mul, Value.cells, List.toList_toArray, zerosA, List.replicate, List.flatten, List.append_nil]; done)) (by rfl)) (by exact ResAt.tmp rfl) ⟨_, List.nil_sublist _, .nil⟩ ⟨rfl, rfl⟩) (Coe.tup (by (repeat (first | exact CoeL.nil | refine CoeL.cons Coe.rfl ?_ | refine CoeL.cons Coe.nil ?_ | refine CoeL.cons (Coe.agg ?_) ?_)); done)) (ret3M e)
end Go.Proofs.Ytbmndjjaaeambaa.By
