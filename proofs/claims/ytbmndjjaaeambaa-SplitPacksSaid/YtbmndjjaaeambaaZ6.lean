/-
  SplitPacks, the statement: for every input the law returns true, and its arguments read as before. No condition.
-/
import Derived.ChangeSame
import Derived.JoinedOf
import Derived.JoinedAt
import Derived.RowKit3
import Derived.ReadAgain
import Derived.Deep.Slices
import Derived.ChangeSlices
import Derived.Test.YtbmndjjaaeambaaZ5
/-
  Layer 30: SplitPacks, walked.
-/
namespace Go.Proofs.Ytbmndjjaaeambaa.By
open Go.RowKit L A Dk
set_option linter.unusedVariables false
set_option linter.unusedSimpArgs false
attribute [local irreducible] AW AQ AO
theorem packR_len (m : Msg) : (packR m).1.length ≤ 5000 := by
  unfold packR
  (repeat' split) <;> first | exact Nat.zero_le _ | skip
  rename_i h
  have := encR_len4 h
  simp only [List.length_cons, List.length_drop]; omega
theorem decS_lenK (b : List UInt8) : (decS b).1.opts.length ≤ 1000000 := by
  by_cases h : (decS b).2 = 0
  · have := (decS_ok h).1.1.2.1; omega
  · rw [decS_none _ h]; exact Nat.zero_le _
theorem unpackR_len (b : List UInt8) : (unpackR b).1.opts.length ≤ 1000000 := by
  unfold unpackR
  (repeat' split) <;> first | exact Nat.zero_le _ | exact decS_lenK _
set_option maxHeartbeats 8000000 in
theorem lawPacks_fn (m : Msg) (l : List Int) (b : List UInt8) (at' by' : Int) (hop : m.opts.length ≤ maxLen) (hl : l.length ≤ maxLen) (hby : -9223372036854775808 ≤ by' ∧ by' ≤ 9223372036854775807) : Sp Try.prog 7 [aggM m, roI l, roB b, .val (.int .i64 at'), .val (.int .i64 by')] [] (Is (.val (.bool true))) := by
  refine Sp.enter Try.func7 rfl _ Try.ntmps7 rfl (fun w0 R0 => ?_)
  refine AW.seq ?_
  refine AW.region ?_
  refine AO.opB (O.box rfl rfl rfl rfl rfl) rfl rfl rfl ?_
  intro B1
  refine AO.op (O.assign rfl rfl) rfl rfl rfl ?_
  refine AO.nil ?_
  refine AQ.thenN ?_
  refine AW.seq ?_
  refine AW.seq ?_
  refine AW.region ?_
  refine AO.op (O.loadK rfl rfl (by repeat (exact List.Mem.head _)) (by rfl) (by rfl)) rfl rfl rfl ?_
  refine AO.op (O.call rfl Try.func13 rfl rfl rfl (smallM_fn m hop)) rfl rfl rfl ?_
  refine AO.op (O.not rfl rfl (by rfl)) rfl rfl rfl ?_
  refine AO.op (O.move rfl rfl) rfl rfl rfl ?_
  refine AO.opG rfl rfl rfl (fun hp => O.move rfl rfl) ?_
  refine AO.opG rfl rfl rfl (fun hp => OpW.force 31 rfl (by exact hp) (O.call rfl Try.func27 rfl rfl rfl (small_fn _))) ?_
  refine AO.opG rfl rfl rfl (fun hp => OpW.force 32 rfl (by exact hp) (O.not rfl rfl (by rfl))) ?_
  refine AO.op (O.pickOr rfl rfl rfl rfl (fun h => by exact congrArg (fun b => !b) h)) rfl rfl rfl ?_
  refine AO.nil ?_
  refine AQ.thenN ?_
  refine AW.split rfl (fun h => ?_) (fun h => ?_) <;> (try simp only [decide_eq_true_eq, decide_eq_false_iff_not, beq_iff_eq, beq_eq_false_iff_ne, bne_iff_ne, bne_eq_false_iff_eq, Bool.not_eq_true', Bool.not_eq_false', Bool.not_eq_true, Bool.not_eq_false, ne_eq, Int.not_lt, Int.not_le, Bool.and_eq_true, Bool.or_eq_true, Bool.or_eq_false_iff, Bool.and_eq_false_imp, strOf_toList, Decidable.not_not] at h)
  · skip
    refine AW.seq ?_
    refine AW.region ?_
    refine AO.op (O.call rfl Try.func12 rfl rfl rfl (awake30_fn)) rfl rfl rfl ?_
    refine AO.op (O.assign rfl rfl) rfl rfl rfl ?_
    refine AO.nil ?_
    refine AQ.thenN ?_
    refine AW.ret ?_
    refine AQ.thenR ?_
    refine AQ.ret1 rfl rfl ⟨_, List.nil_sublist _, .nil⟩ (⟨rfl, rfl⟩)
  · skip
    refine AW.skip ?_
    refine AQ.thenN ?_
    refine AW.seq ?_
    refine AW.region ?_
    refine AO.op (O.move rfl rfl) rfl rfl rfl ?_
    refine AO.opB (O.call rfl Try.func14 rfl rfl rfl (new_fn _)) rfl rfl rfl ?_
    intro B2
    refine AO.op (O.assign rfl rfl) rfl rfl rfl ?_
    refine AO.nil ?_
    refine AQ.thenN ?_
    refine AW.seq ?_
    refine AW.region ?_
    refine AO.op (O.move rfl rfl) rfl rfl rfl ?_
    refine AO.callMG 0 rfl rfl Try.func15 rfl rfl rfl rfl rfl rfl (request_any _ l _ hl (by exact Nat.zero_le _)) ?_
    rintro _ _ ⟨⟨m3, hm3, rfl⟩, kd3, hkd3, rfl⟩
    dsimp only [List.cons_append, List.nil_append, List.eraseIdx]
    refine AO.opB (O.alloc rfl (by (dsimp only [List.set, List.append, List.cons_append, List.nil_append, roB_cells, roI_cells, roO_cells, splice, ofConst, AV.cells, List.map, List.map_cons, List.map_nil, List.take, List.drop, Nat.zero_add, Nat.add_zero, Nat.reduceAdd, Nat.reduceMul, Nat.zero_mul, Value.cells, List.toList_toArray, zerosA, List.replicate, List.flatten, List.append_nil]; done)) (by rfl)) rfl rfl rfl ?_
    intro B4
    (refine AO.store (i := 0) rfl rfl rfl rfl rfl rfl (by rfl) (by rfl) (by rfl) (by (dsimp only [List.set, List.append, List.cons_append, List.nil_append, roB_cells, roI_cells, roO_cells, splice, ofConst, AV.cells, List.map, List.map_cons, List.map_nil, List.take, List.drop, Nat.zero_add, Nat.add_zero, Nat.reduceAdd, Nat.reduceMul, Nat.zero_mul, Value.cells, List.toList_toArray, zerosA, List.replicate, List.flatten, List.append_nil]; done)) (by (dsimp only [List.set, List.append, List.cons_append, List.nil_append, roB_cells, roI_cells, roO_cells, splice, ofConst, AV.cells, List.map, List.map_cons, List.map_nil, List.take, List.drop, Nat.zero_add, Nat.add_zero, Nat.reduceAdd, Nat.reduceMul, Nat.zero_mul, Value.cells, List.toList_toArray, zerosA, List.replicate, List.flatten, List.append_nil]; done)) ?_)
    refine AO.nil ?_
    refine AQ.thenN ?_
    refine AW.seq ?_
    refine AW.seq ?_
    refine AW.regionM [(0, false), (1, false), (2, false), (6, false), (3, true), (4, false), (5, false)] (by kernel_rfl) (by kernel_rfl) (by exact (by exact splitBlk 11 1 rfl rfl splitNil)) ?_
    dsimp only [List.eraseIdx]
    refine AM.op rfl (O.loadK rfl rfl (by repeat (first | exact List.Mem.head _ | refine List.Mem.tail _ ?_)) (by rfl) (by rfl)) rfl rfl rfl ?_
    refine AM.op rfl (O.loadK rfl rfl (by repeat (exact List.Mem.head _)) (by rfl) (by rfl)) rfl rfl rfl ?_
    refine AM.op rfl (O.move rfl rfl) rfl rfl rfl ?_
    refine AM.op rfl (O.move rfl rfl) rfl rfl rfl ?_
    refine AM.main _ rfl (fun w0 R0 => ?_)
    refine AO.callMG 0 rfl rfl Try.func16 rfl rfl rfl rfl rfl rfl (response_any _ l _ hl (by assumption)) ?_
    rintro _ _ ⟨⟨m5, hm5, rfl⟩, kd5, hkd5, rfl⟩
    dsimp only [List.cons_append, List.nil_append, List.eraseIdx]
    refine AM.ok ?_
    dsimp only [putE]
    refine AM.op rfl (OpW.frz (O.buildSliceF rfl rfl rfl (by rfl) (by rfl) (by rfl) (by rfl) (by rfl)) (by (unfold maxLen; omega))) rfl rfl rfl ?_
    refine AM.op rfl (O.lenR rfl rfl) rfl rfl rfl ?_
    refine AM.nil ?_
    dsimp only [List.cons_append, List.nil_append]
    refine AQ.thenN ?_
    refine AW.block ?_
    obtain ⟨ms, hms⟩ : ∃ ms : List Msg, ms = [m, m3, m5] := ⟨_, rfl⟩
    have hml : ms.length = 3 := by rw [hms]; rfl
    refine AW.g ?_
    refine G.re 44 (roMs ms) (by rw [hms]; rfl) ?_
    refine AW.u ?_
    clear hms
    refine AW.loopK [(2, _), (3, _), (4, _), (12, _), (44, _), (45, _)] (fun nn E H => ∃ (k : Nat), (k ≤ 3) ∧ nn = 3 - k ∧ E = [(46, .val (.int .i64 (k : Int)))] ∧ H = [.blk B4 29 6 [.val (.int .i64 m3.ty), .val (.int .i64 m3.code), .val (.int .i64 m3.id), roB m3.tok, roO m3.opts, roB m3.pay]]) _ (⟨0, by omega, rfl, rfl, rfl⟩) (by repeat (first | exact envNil | refine envCons rfl ?_)) (by repeat (first | exact envNil | refine envCons rfl ?_)) (by repeat (first | exact subPnil | refine subPcons 1 rfl ?_)) ?_
    rintro nn E H ⟨k, hk, rfl, rfl, rfl⟩
    dsimp only [List.cons_append, List.nil_append]
    refine AW.seq ?_
    refine AW.region ?_
    refine AO.op (O.lss rfl rfl rfl (by rfl)) rfl rfl rfl ?_
    refine AO.nil ?_
    refine AQ.thenN ?_
    refine AW.seq ?_
    refine AW.split rfl (fun h2 => ?_) (fun h2 => ?_) <;> (try simp only [decide_eq_true_eq, decide_eq_false_iff_not, beq_iff_eq, beq_eq_false_iff_ne, bne_iff_ne, bne_eq_false_iff_eq, Bool.not_eq_true', Bool.not_eq_false', Bool.not_eq_true, Bool.not_eq_false, ne_eq, Int.not_lt, Int.not_le, Bool.and_eq_true, Bool.or_eq_true, Bool.or_eq_false_iff, Bool.and_eq_false_imp, strOf_toList, Decidable.not_not] at h2)
    · skip
      have hk2 : k < ms.length := by omega
      obtain ⟨x, hx⟩ : ∃ x, x = mat ms k := ⟨_, rfl⟩
      have hra : ((msgsA ms).drop ((k : Int).toNat * 6)).take 6 = [.val (.int .i64 x.ty), .val (.int .i64 x.code), .val (.int .i64 x.id), roB x.tok, roO x.opts, roB x.pay] := by rw [hx]; exact getMs hk2 (by omega)
      refine AW.skip ?_
      refine AQ.thenN ?_
      refine AW.seq ?_
      refine AW.block ?_
      refine AW.seq ?_
      refine AW.region ?_
      refine AO.op (O.idxR rfl rfl rfl ⟨(by omega), (by omega)⟩) rfl rfl rfl ?_
      refine AO.op (O.loadRK rfl rfl (by exact hra) (by rfl)) rfl rfl rfl ?_
      refine AO.opB (O.alloc rfl (by (dsimp only [List.set, List.append, List.cons_append, List.nil_append, roB_cells, roI_cells, roO_cells, splice, ofConst, AV.cells, List.map, List.map_cons, List.map_nil, List.take, List.drop, Nat.zero_add, Nat.add_zero, Nat.reduceAdd, Nat.reduceMul, Nat.zero_mul, Value.cells, List.toList_toArray, zerosA, List.replicate, List.flatten, List.append_nil]; done)) (by rfl)) rfl rfl rfl ?_
      intro B6
      (refine AO.store (i := 0) rfl rfl rfl rfl rfl rfl (by rfl) (by rfl) (by rfl) (by (dsimp only [List.set, List.append, List.cons_append, List.nil_append, roB_cells, roI_cells, roO_cells, splice, ofConst, AV.cells, List.map, List.map_cons, List.map_nil, List.take, List.drop, Nat.zero_add, Nat.add_zero, Nat.reduceAdd, Nat.reduceMul, Nat.zero_mul, Value.cells, List.toList_toArray, zerosA, List.replicate, List.flatten, List.append_nil]; done)) (by (dsimp only [List.set, List.append, List.cons_append, List.nil_append, roB_cells, roI_cells, roO_cells, splice, ofConst, AV.cells, List.map, List.map_cons, List.map_nil, List.take, List.drop, Nat.zero_add, Nat.add_zero, Nat.reduceAdd, Nat.reduceMul, Nat.zero_mul, Value.cells, List.toList_toArray, zerosA, List.replicate, List.flatten, List.append_nil]; done)) ?_)
      refine AO.nil ?_
      refine AQ.thenN ?_
      refine AW.seq ?_
      refine AW.region ?_
      refine AO.op (O.loadK rfl rfl (by repeat (exact List.Mem.head _)) (by rfl) (by rfl)) rfl rfl rfl ?_
      refine AO.op (O.call rfl Try.func28 rfl rfl rfl (pack_fn x)) rfl rfl rfl ?_
      refine AO.op (O.move rfl rfl) rfl rfl rfl ?_
      refine AO.op (O.extract rfl rfl rfl) rfl rfl rfl ?_
      refine AO.op (O.extract rfl rfl rfl) rfl rfl rfl ?_
      refine AO.op (O.assign rfl rfl) rfl rfl rfl ?_
      refine AO.op (O.assign rfl rfl) rfl rfl rfl ?_
      refine AO.nil ?_
      refine AQ.thenN ?_
      refine AW.seq ?_
      refine AW.region ?_
      refine AO.op (O.loadK rfl rfl (by repeat (exact List.Mem.head _)) (by rfl) (by rfl)) rfl rfl rfl ?_
      refine AO.op (O.call rfl Try.func29 rfl rfl rfl (rpack_fn x)) rfl rfl rfl ?_
      refine AO.op (O.move rfl rfl) rfl rfl rfl ?_
      refine AO.op (O.extract rfl rfl rfl) rfl rfl rfl ?_
      refine AO.op (O.extract rfl rfl rfl) rfl rfl rfl ?_
      refine AO.op (O.assign rfl rfl) rfl rfl rfl ?_
      refine AO.op (O.assign rfl rfl) rfl rfl rfl ?_
      refine AO.nil ?_
      refine AQ.thenN ?_
      refine AW.seq ?_
      refine AW.region ?_
      refine AO.op (O.move rfl rfl) rfl rfl rfl ?_
      refine AO.op (O.move rfl rfl) rfl rfl rfl ?_
      refine AO.op (O.neq rfl rfl rfl (by exact bne_eq_false_iff_eq.2 (by omega))) rfl rfl rfl ?_
      refine AO.op (O.move rfl rfl) rfl rfl rfl ?_
      refine AO.opG rfl rfl rfl (fun hp => O.move rfl rfl) ?_
      refine AO.opG rfl rfl rfl (fun hp => O.move rfl rfl) ?_
      refine AO.opG rfl rfl rfl (fun hp => OpW.force 64 rfl (by exact hp) (OpW.force 65 rfl (by exact hp) (O.call rfl Try.func30 rfl rfl rfl (equal26_fn _ _)))) ?_
      refine AO.opG rfl rfl rfl (fun hp => OpW.force 66 rfl (by exact hp) (O.not rfl rfl (by rfl))) ?_
      refine AO.op (O.pickOr rfl rfl rfl rfl (fun h => by exact congrArg (fun b => !b) h)) rfl rfl rfl ?_
      refine AO.nil ?_
      refine AQ.thenN ?_
      refine AW.split rfl (fun h3 => ?_) (fun h3 => ?_)
      · skip
        simp at h3
      · skip
        refine AW.skip ?_
        refine AQ.blockN ?_
        refine AQ.thenN ?_
        refine AW.region ?_
        refine AO.op (O.add rfl rfl rfl (by exact wI64 (by omega))) rfl rfl rfl ?_
        refine AO.op (O.move rfl rfl) rfl rfl rfl ?_
        refine AO.nil ?_
        refine AQ.loopKN _ _ _ (by omega) (⟨k + 1, by omega, rfl, rfl, rfl⟩) (by repeat (first | exact envNil | refine envCons rfl ?_)) (by repeat (first | exact envNil | refine envCons rfl ?_)) (by repeat (first | exact subPnil | refine subPcons 1 rfl ?_))
    · skip
      have hpk := packR_len m3
      refine AW.exit ?_
      refine AQ.thenX ?_
      refine AQ.loopX ?_
      refine AQ.blockX rfl ?_
      refine AQ.thenN ?_
      refine AW.seq ?_
      refine AW.region ?_
      refine AO.op (O.loadK rfl rfl (by repeat (exact List.Mem.head _)) (by rfl) (by rfl)) rfl rfl rfl ?_
      refine AO.op (O.call rfl Try.func29 rfl rfl rfl (rpack_fn m3)) rfl rfl rfl ?_
      refine AO.op (O.move rfl rfl) rfl rfl rfl ?_
      refine AO.op (O.extract rfl rfl rfl) rfl rfl rfl ?_
      refine AO.op (O.extract rfl rfl rfl) rfl rfl rfl ?_
      refine AO.op (O.assign rfl rfl) rfl rfl rfl ?_
      refine AO.op (O.assign rfl rfl) rfl rfl rfl ?_
      refine AO.nil ?_
      refine AQ.thenN ?_
      refine AW.seq ?_
      refine AW.seq ?_
      refine AW.region ?_
      refine AO.op (O.move rfl rfl) rfl rfl rfl ?_
      refine AO.op (O.move rfl rfl) rfl rfl rfl ?_
      refine AO.op (O.move rfl rfl) rfl rfl rfl ?_
      refine AO.op (O.move rfl rfl) rfl rfl rfl ?_
      refine AO.op (O.move rfl rfl) rfl rfl rfl ?_
      refine AO.opN (O.call rfl Try.func31 rfl rfl rfl (spoilt_fn (packR m3).1 _ _ (by omega) hby)) rfl rfl rfl ?_
      rintro _ _ ⟨⟨x7, hx7, rfl⟩, rfl⟩
      simp only [List.cons_append, List.nil_append]
      refine AO.opB (O.buildSliceF rfl rfl rfl (by rfl) (by rfl) (by rfl) (by rfl) (by rfl)) rfl rfl rfl ?_
      intro B8
      refine AO.g ?_
      (refine G.freezeSl 0 81 rfl rfl ⟨Nat.le_refl _, by unfold maxLen; omega⟩ ?_)
      refine G.unfull 81 rfl ?_
      refine AO.u ?_
      dsimp only [List.eraseIdx]
      refine AO.op (O.lenR rfl rfl) rfl rfl rfl ?_
      refine AO.op (O.move rfl rfl) rfl rfl rfl ?_
      refine AO.nil ?_
      refine AQ.thenN ?_
      refine AW.block ?_
      obtain ⟨bs, hbs⟩ : ∃ bs : List (List UInt8), bs = [b, (packR m3).1, x7] := ⟨_, rfl⟩
      have hbl : bs.length = 3 := by rw [hbs]; rfl
      have hbb : ∀ r ∈ bs, r.length ≤ 900000 := by
        intro r hr
        rw [hbs] at hr
        simp only [List.mem_cons, List.not_mem_nil, or_false] at hr
        rcases hr with rfl | rfl | rfl <;> omega
      refine AW.g ?_
      refine G.re 81 (roBs bs) (by rw [hbs]; rfl) ?_
      refine AW.u ?_
      clear hbs
      refine AW.loopK [(81, _), (82, _)] (fun nn E H => ∃ (k : Nat), (k ≤ 3) ∧ nn = 3 - k ∧ E = [(83, .val (.int .i64 (k : Int)))] ∧ H = []) _ (⟨0, by omega, rfl, rfl, rfl⟩) (by repeat (first | exact envNil | refine envCons rfl ?_)) (by repeat (first | exact envNil | refine envCons rfl ?_)) (by repeat (exact subPnil)) ?_
      rintro nn E H ⟨k, hk, rfl, rfl, rfl⟩
      dsimp only [List.cons_append, List.nil_append]
      refine AW.seq ?_
      refine AW.region ?_
      refine AO.op (O.lss rfl rfl rfl (by rfl)) rfl rfl rfl ?_
      refine AO.nil ?_
      refine AQ.thenN ?_
      refine AW.seq ?_
      refine AW.split rfl (fun h5 => ?_) (fun h5 => ?_) <;> (try simp only [decide_eq_true_eq, decide_eq_false_iff_not, beq_iff_eq, beq_eq_false_iff_ne, bne_iff_ne, bne_eq_false_iff_eq, Bool.not_eq_true', Bool.not_eq_false', Bool.not_eq_true, Bool.not_eq_false, ne_eq, Int.not_lt, Int.not_le, Bool.and_eq_true, Bool.or_eq_true, Bool.or_eq_false_iff, Bool.and_eq_false_imp, strOf_toList, Decidable.not_not] at h5)
      · skip
        have hk2 : k < bs.length := by omega
        obtain ⟨r, hrr⟩ : ∃ r, r = vat bs k := ⟨_, rfl⟩
        have hr : r.length ≤ 900000 := by rw [hrr]; exact hbb _ (getD_mem [] hk2)
        have hra : (bsA bs)[(k : Int).toNat * 1]? = some (roB r) := by rw [hrr]; exact bsA_at hk2 (by omega)
        refine AW.skip ?_
        refine AQ.thenN ?_
        refine AW.seq ?_
        refine AW.block ?_
        refine AW.seq ?_
        refine AW.region ?_
        refine AO.op (O.idxR rfl rfl rfl ⟨(by omega), (by omega)⟩) rfl rfl rfl ?_
        refine AO.op (O.loadR rfl rfl (by assumption)) rfl rfl rfl ?_
        refine AO.op (O.assign rfl rfl) rfl rfl rfl ?_
        refine AO.nil ?_
        refine AQ.thenN ?_
        refine AW.seq ?_
        refine AW.region ?_
        refine AO.op (O.move rfl rfl) rfl rfl rfl ?_
        refine AO.op (O.call rfl Try.func32 rfl rfl rfl (unpack_fn r hr)) rfl rfl rfl ?_
        refine AO.op (O.move rfl rfl) rfl rfl rfl ?_
        refine AO.op (O.extract rfl rfl rfl) rfl rfl rfl ?_
        refine AO.op (O.extract rfl rfl rfl) rfl rfl rfl ?_
        refine AO.opB (O.alloc rfl (by (dsimp only [List.set, List.append, List.cons_append, List.nil_append, roB_cells, roI_cells, roO_cells, splice, ofConst, AV.cells, List.map, List.map_cons, List.map_nil, List.take, List.drop, Nat.zero_add, Nat.add_zero, Nat.reduceAdd, Nat.reduceMul, Nat.zero_mul, Value.cells, List.toList_toArray, zerosA, List.replicate, List.flatten, List.append_nil]; done)) (by rfl)) rfl rfl rfl ?_
        intro B9
        (refine AO.store (i := 0) rfl rfl rfl rfl rfl rfl (by rfl) (by rfl) (by rfl) (by (dsimp only [List.set, List.append, List.cons_append, List.nil_append, roB_cells, roI_cells, roO_cells, splice, ofConst, AV.cells, List.map, List.map_cons, List.map_nil, List.take, List.drop, Nat.zero_add, Nat.add_zero, Nat.reduceAdd, Nat.reduceMul, Nat.zero_mul, Value.cells, List.toList_toArray, zerosA, List.replicate, List.flatten, List.append_nil]; done)) (by (dsimp only [List.set, List.append, List.cons_append, List.nil_append, roB_cells, roI_cells, roO_cells, splice, ofConst, AV.cells, List.map, List.map_cons, List.map_nil, List.take, List.drop, Nat.zero_add, Nat.add_zero, Nat.reduceAdd, Nat.reduceMul, Nat.zero_mul, Value.cells, List.toList_toArray, zerosA, List.replicate, List.flatten, List.append_nil]; done)) ?_)
        refine AO.op (O.assign rfl rfl) rfl rfl rfl ?_
        refine AO.nil ?_
        refine AQ.thenN ?_
        refine AW.seq ?_
        refine AW.region ?_
        refine AO.op (O.move rfl rfl) rfl rfl rfl ?_
        refine AO.op (O.call rfl Try.func33 rfl rfl rfl (runpack_fn r hr)) rfl rfl rfl ?_
        refine AO.op (O.move rfl rfl) rfl rfl rfl ?_
        refine AO.op (O.extract rfl rfl rfl) rfl rfl rfl ?_
        refine AO.op (O.extract rfl rfl rfl) rfl rfl rfl ?_
        refine AO.opB (O.alloc rfl (by (dsimp only [List.set, List.append, List.cons_append, List.nil_append, roB_cells, roI_cells, roO_cells, splice, ofConst, AV.cells, List.map, List.map_cons, List.map_nil, List.take, List.drop, Nat.zero_add, Nat.add_zero, Nat.reduceAdd, Nat.reduceMul, Nat.zero_mul, Value.cells, List.toList_toArray, zerosA, List.replicate, List.flatten, List.append_nil]; done)) (by rfl)) rfl rfl rfl ?_
        intro B10
        (refine AO.store (i := 0) rfl rfl rfl rfl rfl rfl (by rfl) (by rfl) (by rfl) (by (dsimp only [List.set, List.append, List.cons_append, List.nil_append, roB_cells, roI_cells, roO_cells, splice, ofConst, AV.cells, List.map, List.map_cons, List.map_nil, List.take, List.drop, Nat.zero_add, Nat.add_zero, Nat.reduceAdd, Nat.reduceMul, Nat.zero_mul, Value.cells, List.toList_toArray, zerosA, List.replicate, List.flatten, List.append_nil]; done)) (by (dsimp only [List.set, List.append, List.cons_append, List.nil_append, roB_cells, roI_cells, roO_cells, splice, ofConst, AV.cells, List.map, List.map_cons, List.map_nil, List.take, List.drop, Nat.zero_add, Nat.add_zero, Nat.reduceAdd, Nat.reduceMul, Nat.zero_mul, Value.cells, List.toList_toArray, zerosA, List.replicate, List.flatten, List.append_nil]; done)) ?_)
        refine AO.op (O.assign rfl rfl) rfl rfl rfl ?_
        refine AO.nil ?_
        refine AQ.thenN ?_
        refine AW.seq ?_
        refine AW.region ?_
        refine AO.op (O.move rfl rfl) rfl rfl rfl ?_
        refine AO.op (O.move rfl rfl) rfl rfl rfl ?_
        refine AO.op (O.neq rfl rfl rfl (by exact bne_eq_false_iff_eq.2 (by omega))) rfl rfl rfl ?_
        refine AO.op (O.move rfl rfl) rfl rfl rfl ?_
        refine AO.opG rfl rfl rfl (fun hp => O.loadK rfl rfl (by repeat (first | exact List.Mem.head _ | refine List.Mem.tail _ ?_)) (by rfl) (by rfl)) ?_
        refine AO.opG rfl rfl rfl (fun hp => O.loadK rfl rfl (by repeat (exact List.Mem.head _)) (by rfl) (by rfl)) ?_
        refine AO.opG rfl rfl rfl (fun hp => OpW.force 101 rfl (by exact hp) (OpW.force 102 rfl (by exact hp) (O.call rfl Try.func22 rfl rfl rfl (same_fn (unpackR r).1 (unpackR r).1 (unpackR_len r))))) ?_
        refine AO.opG rfl rfl rfl (fun hp => OpW.force 103 rfl (by exact hp) (O.not rfl rfl (by rfl))) ?_
        refine AO.op (O.pickOr rfl rfl rfl rfl (fun h => by exact congrArg (fun b => !b) h)) rfl rfl rfl ?_
        refine AO.nil ?_
        refine AQ.thenN ?_
        refine AW.split rfl (fun h6 => ?_) (fun h6 => ?_)
        · skip
          simp at h6
        · skip
          refine AW.skip ?_
          refine AQ.blockN ?_
          refine AQ.thenN ?_
          refine AW.region ?_
          refine AO.op (O.add rfl rfl rfl (by exact wI64 (by omega))) rfl rfl rfl ?_
          refine AO.op (O.move rfl rfl) rfl rfl rfl ?_
          refine AO.nil ?_
          refine AQ.loopKN _ _ _ (by omega) (⟨k + 1, by omega, rfl, rfl, rfl⟩) (by repeat (first | exact envNil | refine envCons rfl ?_)) (by repeat (first | exact envNil | refine envCons rfl ?_)) (by repeat (exact subPnil))
      · skip
        refine AW.exit ?_
        refine AQ.thenX ?_
        refine AQ.loopX ?_
        refine AQ.blockX rfl ?_
        refine AQ.thenN ?_
        refine AW.seq ?_
        refine AW.region ?_
        refine AO.op (O.call rfl Try.func12 rfl rfl rfl (awake30_fn)) rfl rfl rfl ?_
        refine AO.op (O.assign rfl rfl) rfl rfl rfl ?_
        refine AO.nil ?_
        refine AQ.thenN ?_
        refine AW.ret ?_
        refine AQ.ret1 rfl rfl ⟨_, List.nil_sublist _, .nil⟩ (⟨rfl, rfl⟩)
end Go.Proofs.Ytbmndjjaaeambaa.By

/-
  From a walk over symbolic states to a law's statement: the arguments, read; nothing turned.
-/
namespace Go.Proofs.Ytbmndjjaaeambaa.A
open Go.ChangeShapes Go.WideShapes Go.ChangeAt Go.RowKit Go.Deep L
set_option linter.unusedVariables false
set_option linter.unusedSimpArgs false

theorem own : ownKnob Try.prog.godebug = none := by kernel_rfl
theorem kids : Kids Try.prog (· < Try.prog.types.size) := kids_rows (by kernel_rfl) (by kernel_rfl)
theorem full : ∀ t e, t < Try.prog.types.size → Try.prog.underlying t = some (.slice e) → 0 < Try.prog.cellsOf e := slices_full_of Try.prog (by kernel_rfl)

theorem sameAt_ext {W W' : World} (h : Ext W W') (p : MemPlace) (hp : p.block < W.heap.size) : W.sameAt W' p := by
  have hb : W'.heap[p.block]? = W.heap[p.block]? := h.block _ hp (fun hh => hh)
  cases p with
  | cell b off => exact World.cell?_of_block (w := W) (a := ⟨b, off, none⟩) hb
  | map b => exact hb

section
variable {H : Type} {enc : TypeId × Value → H}
theorem trodAll_carry {P : Program} {W W' : World} {base : Nat} {spare : Nat → Bool} {held : Bool} : ∀ {ts : List TypeId} {vs : List Value} {ds : List (DataW H)} {ps : List MemPlace},
    DataW.TrodAll enc P W base spare held ts vs ds ps → (∀ p ∈ ps, W.sameAt W' p) → DataW.TrodAll enc P W' base spare held ts vs ds ps
  | [], [], [], _, h, _ => h
  | _ :: _, _ :: _, _ :: _, _, ⟨p, q, ⟨n, h1⟩, h2, e⟩, hs => ⟨p, q, ⟨n, DataW.trod_carry n _ _ _ h1 (fun x hx => hs x (by rw [e]; exact List.mem_append_left _ hx))⟩, trodAll_carry h2 (fun x hx => hs x (by rw [e]; exact List.mem_append_right _ hx)), e⟩

/-- A law: it returned true, and nothing that was there has turned. -/
theorem lawPost {fn : Func} {s : ChangeSpec} {W W' : World} {args : Array Value} {ds gs : List (DataW H)} {before : List MemPlace} {bt : TypeId}
    (hW : DataW.Whole enc Try.prog fn.params.toList s.vars false W args.toList ds gs before) (hv : s.vars = []) (hfn : s.fn H (ds ++ gs) = { results := [.lit (.bool true)], args := ds }) (hres : fn.resultTypes = #[bt]) (hbt : Try.prog.underlying bt = some .bool)
    (hpar : ∀ t ∈ fn.params.toList, t < Try.prog.types.size) (hE : Ext W W') : s.post enc Try.prog fn false true false false W args (.bool true) W' := by
  have hold : ∀ p ∈ before, (fun b => decide (b < W.heap.size)) p.block = true := fun p hp => by simpa using hW.lt p hp
  have hlt := hW.lt
  have hW' := hW
  obtain ⟨pa, pv, hA, hV, rfl, hz, hn⟩ := hW
  rw [hv] at hV
  obtain ⟨rfl, rfl⟩ := trodVars_none hV
  have hA' : DataW.TrodAll enc Try.prog W' 0 (fun _ => true) true fn.params.toList args.toList ds pa := trodAll_carry hA fun p hp => sameAt_ext hE p (hlt p (List.mem_append_left _ hp))
  have hargs : ∀ sp : Nat → Bool, (∀ p ∈ pa ++ [], sp p.block = true) → DataW.TrodAll enc Try.prog W' 0 sp true fn.params.toList args.toList ds pa := fun sp hsp =>
    DataW.TrodAll.respare kids full hpar hA' fun p hp => hsp p (by simpa using hp)
  have hres' : ∀ (b : Nat) (sp : Nat → Bool) (hd : Bool), DataW.TrodAll enc Try.prog W' b sp hd fn.resultTypes.toList ((Value.bool true).resultList fn.resultTypes.size) [.lit (.bool true)] [] := fun b sp hd => by
    rw [hres]; exact trodAll_cons_mk (shut_bool hbt true) trodAll_mk0
  refine ⟨ds, [], pa ++ [], [], pa, [], hW', by rw [hfn]; exact hres' _ _ _, by rw [hfn]; exact hargs _ hold, by rw [hfn, hv]; rfl, World.keptBut_mono (fun p hp => ⟨hp, ?_⟩) ((hE.toBelow).frame (· ∈ pa ++ [])), fun h => by cases h⟩
  exact Or.inr (by simpa using hp)

/-! ### How arguments read -/

def Old (W : World) : Nat → Prop := fun b => b < W.heap.size

variable {P : Program} {W : World}
/-- A reading of cells of a type as these. -/
theorem rd_int {base : Nat} {spare : Nat → Bool} {held : Bool} {t : TypeId} {k : IntKind} (ht : P.underlying t = some (.int k)) {n : Nat} {cs : List Value} {x : DataW H × List MemPlace} (h : DataW.trod enc P W base spare held n t cs = some x) :
    ∃ z : Int, (Lit.int k z).wf = true ∧ RelL (Old W) W [.val (.int k z)] cs := by
  cases n with
  | zero => simp [DataW.trod] at h
  | succ n =>
    obtain ⟨z, rfl, _, hw⟩ := DataW.trod_int ht h
    exact ⟨z, hw, RelL.cons (.val _) RelL.nil⟩

theorem rd_slice {α : Type} {enc' : α → List AV} {good : α → Prop} {base : Nat} {spare : Nat → Bool} {held : Bool} {t e : TypeId} (ht : P.underlying t = some (.slice e)) (hsz : ∀ a, (enc' a).length = P.cellsOf e) (hpos : 0 < P.cellsOf e)
    (he : ∀ (n : Nat) (cs : List Value) (x : DataW H × List MemPlace), cs.length = P.cellsOf e → DataW.trod enc P W base spare held n e cs = some x → ∃ a, good a ∧ RelL (Old W) W (enc' a) cs)
    {n : Nat} {cs : List Value} {x : DataW H × List MemPlace} (h : DataW.trod enc P W base spare held n t cs = some x) :
    ∃ l : List α, (∀ a ∈ l, good a) ∧ l.length ≤ maxLen ∧ RelL (Old W) W [.ro false l.length (l.flatMap enc')] cs := by
  rcases open_slice ht h with ⟨rfl, -⟩ | ⟨ad, len, cap, m, n', D, Pl, rfl, hb, hl, hm, hmm, hx, hi⟩
  · exact ⟨[], fun _ h => (by cases h), Nat.zero_le _, RelL.cons (.emp _ _ _ (fun h => by cases h) (Nat.zero_le _)) RelL.nil⟩
  · have hlm : len ≤ m := by rw [hmm]; split <;> omega
    have hex : ∀ i : Nat, ∃ a : Option α, i < len → ∃ a', a = some a' ∧ good a' ∧ ∃ cs', W.cells? base (ad.add (i * P.cellsOf e)) (P.cellsOf e) = some cs' ∧ RelL (Old W) W (enc' a') cs' := fun i => by
      by_cases hil : i < len
      · obtain ⟨cs', hc, htr⟩ := hi i (by omega)
        obtain ⟨_, hcl, _⟩ := World.cells?_some hc
        obtain ⟨a, hg, hr⟩ := he _ _ _ hcl htr
        exact ⟨some a, fun _ => ⟨a, rfl, hg, cs', hc, hr⟩⟩
      · exact ⟨none, fun h => absurd h hil⟩
    obtain ⟨f, hf⟩ := Classical.axiomOfChoice hex
    by_cases hlen0 : len = 0
    · subst hlen0
      exact ⟨[], fun _ h => (by cases h), Nat.zero_le _, RelL.cons (.emp _ _ _ (fun h => by cases h) hm) RelL.nil⟩
    · obtain ⟨a0, _, _⟩ := hf 0 (by omega)
      let g : Nat → α := fun i => (f i).getD a0
      have hg : ∀ i, i < len → good (g i) ∧ ∃ cs', W.cells? base (ad.add (i * P.cellsOf e)) (P.cellsOf e) = some cs' ∧ RelL (Old W) W (enc' (g i)) cs' := fun i hi' => by
        obtain ⟨a', ha', h1, h2⟩ := hf i hi'
        have : g i = a' := by simp [g, ha']
        rw [this]; exact ⟨h1, h2⟩
      have hflat : ∀ (len : Nat), (((List.range len).map g).flatMap enc').length = len * P.cellsOf e := by
        intro len
        induction len with
        | zero => simp
        | succ k ih => rw [List.range_succ, List.map_append, List.flatMap_append, List.length_append, ih]; simp [hsz, Nat.add_mul]
      have hflatget : ∀ (len i j : Nat), i < len → j < P.cellsOf e → (((List.range len).map g).flatMap enc')[i * P.cellsOf e + j]? = (enc' (g i))[j]? := by
        intro len
        induction len with
        | zero => intro i j h; omega
        | succ k ih =>
          intro i j h hj
          rw [List.range_succ, List.map_append, List.flatMap_append, List.getElem?_append]
          by_cases hik : i < k
          · have h1 : (i + 1) * P.cellsOf e ≤ k * P.cellsOf e := Nat.mul_le_mul_right _ (by omega)
            rw [Nat.add_mul] at h1
            rw [if_pos (by rw [hflat]; omega)]
            exact ih i j hik hj
          · have : i = k := by omega
            subst this
            rw [if_neg (by rw [hflat]; omega), hflat]
            simp
      have hblk : ad.spot = none ∧ ad.block < W.heap.size := by
        obtain ⟨_, cs', hc, _⟩ := hg 0 (by omega)
        obtain ⟨_, hcl, hat⟩ := World.cells?_some hc
        have h0 := hat 0 hpos
        simp only [Nat.zero_mul] at h0
        have h1 : W.cell? ad ≠ none := by
          intro hn
          rw [show (ad.add 0).add 0 = ad by simp [Addr.add]] at h0
          rw [hn] at h0
          have := (List.getElem?_eq_none_iff.1 h0.symm)
          omega
        refine ⟨?_, ?_⟩
        · cases hsp : ad.spot with
          | none => rfl
          | some _ => exfalso; apply h1; unfold World.cell?; split <;> simp [hsp]
        · cases hc : W.cell? ad with
          | none => exact absurd hc h1
          | some u => exact World.block_lt_of_cell? W ad hc
      obtain ⟨b, off, sp⟩ := ad
      obtain ⟨rfl, hblt⟩ := hblk
      have hcell : ∀ i j, i < len → j < P.cellsOf e → ∃ u, W.cell? ⟨b, off + (i * P.cellsOf e + j), none⟩ = some u ∧ ∃ x, (enc' (g i))[j]? = some x ∧ RelV (Old W) W x u := fun i j hi' hj => by
        obtain ⟨_, cs', hc, hr⟩ := hg i hi'
        obtain ⟨_, hcl, hat⟩ := World.cells?_some hc
        have h0 := hat j hj
        rw [addr_add, addr_add] at h0
        have hjl : j < cs'.length := by omega
        have hjx : j < (enc' (g i)).length := by rw [hsz]; exact hj
        refine ⟨cs'[j], by rw [← Nat.add_assoc, h0]; simp [hjl], (enc' (g i))[j], by simp [hjx], ?_⟩
        have := hr.2 j hjx
        simpa [hjl] using this
      refine ⟨(List.range len).map g, fun a ha => ?_, by simp; omega, RelL.cons ?_ RelL.nil⟩
      · obtain ⟨i, hi', rfl⟩ := List.mem_map.1 ha
        exact (hg i (List.mem_range.1 hi')).1
      · rw [List.length_map, List.length_range]
        have hq : ∀ j, j < (((List.range len).map g).flatMap enc').length → ∃ u, W.cell? ⟨b, off + j, none⟩ = some u ∧ ∃ x, (((List.range len).map g).flatMap enc')[j]? = some x ∧ RelV (Old W) W x u := fun j hj => by
          rw [hflat] at hj
          have h1 : j / P.cellsOf e < len := (Nat.div_lt_iff_lt_mul hpos).2 hj
          have h2 := Nat.mod_lt j hpos
          have h3 : j / P.cellsOf e * P.cellsOf e + j % P.cellsOf e = j := by rw [Nat.mul_comm]; exact Nat.div_add_mod j _
          obtain ⟨u, hu, x, hx', hr⟩ := hcell (j / P.cellsOf e) (j % P.cellsOf e) h1 h2
          rw [h3] at hu
          refine ⟨u, hu, x, ?_, hr⟩
          have := hflatget len _ _ h1 h2
          rw [h3] at this
          rw [this, hx']
        refine .ro false len _ b off cap (fun j => (W.cell? ⟨b, off + j, none⟩).getD undef) hblt (fun j hj => ?_) (fun j hj => ?_) hl hm (fun h => by cases h)
        · obtain ⟨u, hu, _⟩ := hq j hj
          rw [hu]; rfl
        · obtain ⟨u, hu, x, hx', hr⟩ := hq j hj
          rw [hu]
          simp only [Option.getD_some]
          have : x = (((List.range len).map g).flatMap enc')[j] := by
            rw [List.getElem?_eq_getElem hj] at hx'; exact (Option.some.inj hx').symm
          rw [← this]; exact hr

theorem flatMap_one {α : Type} (f : α → AV) (l : List α) : l.flatMap (fun a => [f a]) = l.map f := by
  induction l with
  | nil => rfl
  | cons a l ih => simp [List.flatMap_cons, ih]

theorem rd_ints {base : Nat} {spare : Nat → Bool} {held : Bool} {t e : TypeId} {k : IntKind} (ht : P.underlying t = some (.slice e)) (he : P.underlying e = some (.int k)) (h1 : P.cellsOf e = 1) {n : Nat} {cs : List Value} {x : DataW H × List MemPlace} (h : DataW.trod enc P W base spare held n t cs = some x) :
    ∃ l : List Int, (∀ z ∈ l, (Lit.int k z).wf = true) ∧ l.length ≤ maxLen ∧ RelL (Old W) W [.ro false l.length (intsA k l)] cs := by
  obtain ⟨l, h2, h3, h4⟩ := rd_slice (enc' := fun z : Int => [.val (.int k z)]) (good := fun z => (Lit.int k z).wf = true) ht (fun _ => h1.symm) (by omega) (fun n cs x _ h => rd_int he h) h
  rw [flatMap_one] at h4
  exact ⟨l, h2, h3, h4⟩
theorem rd_bytes {base : Nat} {spare : Nat → Bool} {held : Bool} {t e : TypeId} (ht : P.underlying t = some (.slice e)) (he : P.underlying e = some (.int .u8)) (h1 : P.cellsOf e = 1) {n : Nat} {cs : List Value} {x : DataW H × List MemPlace} (h : DataW.trod enc P W base spare held n t cs = some x) :
    ∃ l : List UInt8, l.length ≤ maxLen ∧ RelL (Old W) W [roB l] cs := by
  obtain ⟨l, h2, h3, h4⟩ := rd_ints ht he h1 h
  have hb : ∃ m : List UInt8, l = m.map fun b => ((b.toNat : Nat) : Int) := by
    clear h h3 h4
    induction l with
    | nil => exact ⟨[], rfl⟩
    | cons z l ih =>
      obtain ⟨m, rfl⟩ := ih fun z hz => h2 z (List.mem_cons_of_mem _ hz)
      have hz := h2 z (List.mem_cons_self ..)
      have hz' : 0 ≤ z ∧ z ≤ 255 := by simpa [Lit.wf, IntKind.min, IntKind.max, IntKind.signed, IntKind.bits] using hz
      refine ⟨UInt8.ofNat z.toNat :: m, ?_⟩
      simp only [List.map_cons, List.cons.injEq, and_true]
      rw [UInt8.toNat_ofNat_of_lt' (by simp [UInt8.size]; omega)]
      omega
  obtain ⟨m, rfl⟩ := hb
  refine ⟨m, by simpa using h3, ?_⟩
  simpa [roB, bytesA, intsA, Function.comp_def] using h4

theorem relV_of_one {R : Nat → Prop} {a : AV} {v : Value} (hc : v.cells.toList = [v]) (h : RelL R W [a] v.cells.toList) : RelV R W a v := by
  rw [hc] at h
  obtain ⟨u, r, he, h1, _⟩ := h.uncons
  cases he
  exact h1
theorem relV_of_agg {R : Nat → Prop} {xs : List AV} {cs : Array Value} (h : RelL R W xs (Value.agg cs).cells.toList) : RelV R W (.agg xs) (.agg cs) := by
  have := h.toAgg
  simpa [Value.cells] using this
end
end Go.Proofs.Ytbmndjjaaeambaa.A

/-
  How the arguments of a law read; from contracts over all readings to the law's statement.
-/
namespace Go.Proofs.Ytbmndjjaaeambaa.A
open Go.ChangeShapes Go.WideShapes Go.ChangeAt Go.RowKit L
set_option linter.unusedVariables false
set_option linter.unusedSimpArgs false
section
variable {P : Program}

/-- Arguments of this type read as one of these. -/
def Reads (P : Program) (t : TypeId) (φ : AV → Prop) : Prop :=
  ∀ (H : Type) (enc : TypeId × Value → H) (W : World) (base b0 : Nat) (spare : Nat → Bool) (held : Bool) (v : Value) (d : DataW H) (p : List MemPlace),
    Value.okWide P W .any b0 t v → DataW.Trod enc P W base spare held t v d p → ∃ x, φ x ∧ RelV (Old W) W x v
/-- Cells of this type read as one of these. -/
structure RdC (P : Program) (t : TypeId) {α : Type} (f : α → List AV) (good : α → Prop) : Prop where
  len : ∀ a, (f a).length = P.cellsOf t
  rd : ∀ (H : Type) (enc : TypeId × Value → H) (W : World) (base : Nat) (spare : Nat → Bool) (held : Bool) (n : Nat) (cs : List Value) (x : DataW H × List MemPlace),
    DataW.trod enc P W base spare held n t cs = some x → ∃ a, good a ∧ RelL (Old W) W (f a) cs

theorem okw_int {W : World} {r : Reach} {b : Nat} {t : TypeId} {k : IntKind} (ht : P.underlying t = some (.int k)) {v : Value} (h : Value.okWide P W r b t v) : v.cells.toList = [v] := by
  cases v <;> simp [Value.okWide, ht, Cell.okWide, Cell.ok] at h <;> rfl
theorem okw_slice {W : World} {r : Reach} {b : Nat} {t e : TypeId} (ht : P.underlying t = some (.slice e)) {v : Value} (h : Value.okWide P W r b t v) : v.cells.toList = [v] := by
  cases v <;> simp [Value.okWide, ht, Cell.okWide, Cell.ok] at h <;> rfl
theorem okw_bool {W : World} {r : Reach} {b : Nat} {t : TypeId} (ht : P.underlying t = some .bool) {v : Value} (h : Value.okWide P W r b t v) : v.cells.toList = [v] := by
  cases v <;> simp [Value.okWide, ht, Cell.okWide, Cell.ok] at h <;> rfl
theorem okw_string {W : World} {r : Reach} {b : Nat} {t : TypeId} (ht : P.underlying t = some .string) {v : Value} (h : Value.okWide P W r b t v) : v.cells.toList = [v] := by
  cases v <;> simp [Value.okWide, ht, Cell.okWide, Cell.ok] at h <;> rfl

theorem RelL.glue {R : Nat → Prop} {W : World} {xs ys : List AV} {cs : List Value} {o k : Nat} (h1 : RelL R W xs ((cs.drop o).take k)) (h2 : RelL R W ys (cs.drop (o + k))) : RelL R W (xs ++ ys) (cs.drop o) := by
  have := h1.app h2
  rwa [show (cs.drop o).take k ++ cs.drop (o + k) = cs.drop o by rw [← List.drop_drop, List.take_append_drop]] at this
theorem RelL.glueEnd {R : Nat → Prop} {W : World} {xs : List AV} {cs : List Value} {o k : Nat} (h1 : RelL R W xs ((cs.drop o).take k)) (hl : cs.length = o + k) : RelL R W xs (cs.drop o) := by
  rwa [List.take_of_length_le (by rw [List.length_drop]; omega)] at h1

theorem RdC.int {t : TypeId} {k : IntKind} (ht : P.underlying t = some (.int k)) (h1 : P.cellsOf t = 1) : RdC P t (fun z : Int => [.val (.int k z)]) (fun z => (Lit.int k z).wf = true) :=
  ⟨fun _ => h1.symm, fun H enc W base spare held n cs x h => rd_int ht h⟩
theorem RdC.bool {t : TypeId} (ht : P.underlying t = some .bool) (h1 : P.cellsOf t = 1) : RdC P t (fun z : Bool => [.val (.bool z)]) (fun _ => True) :=
  ⟨fun _ => h1.symm, fun H enc W base spare held n cs x h => by
    obtain ⟨b, rfl, _⟩ := DataW.trod_bool ht h
    exact ⟨b, trivial, RelL.cons (.val _) RelL.nil⟩⟩
theorem RdC.string {t : TypeId} (ht : P.underlying t = some .string) (h1 : P.cellsOf t = 1) : RdC P t (fun s : ByteArray => [.val (.string s)]) (fun s => s.size ≤ maxLen) :=
  ⟨fun _ => h1.symm, fun H enc W base spare held n cs x h => by
    obtain ⟨b, rfl, _, hs⟩ := DataW.trod_string ht h
    exact ⟨b, hs, RelL.cons (.val _) RelL.nil⟩⟩
theorem RdC.slice {t e : TypeId} {α : Type} {f : α → List AV} {good : α → Prop} (ht : P.underlying t = some (.slice e)) (h1 : P.cellsOf t = 1) (hpos : 0 < P.cellsOf e) (h : RdC P e f good) :
    RdC P t (fun l : List α => [.ro false l.length (l.flatMap f)]) (fun l => (∀ a ∈ l, good a) ∧ l.length ≤ maxLen) :=
  ⟨fun _ => h1.symm, fun H enc W base spare held n cs x hx => by
    obtain ⟨l, h2, h3, h4⟩ := rd_slice ht h.len hpos (fun n cs x _ hx => h.rd H enc W base spare held n cs x hx) hx
    exact ⟨l, ⟨h2, h3⟩, h4⟩⟩
theorem RdC.bytes {t e : TypeId} (ht : P.underlying t = some (.slice e)) (he : P.underlying e = some (.int .u8)) (h1 : P.cellsOf t = 1) (h2 : P.cellsOf e = 1) : RdC P t (fun l : List UInt8 => [roB l]) (fun l => l.length ≤ maxLen) :=
  ⟨fun _ => h1.symm, fun H enc W base spare held n cs x hx => rd_bytes ht he h2 hx⟩
theorem RdC.ints {t e : TypeId} {k : IntKind} (ht : P.underlying t = some (.slice e)) (he : P.underlying e = some (.int k)) (h1 : P.cellsOf t = 1) (h2 : P.cellsOf e = 1) :
    RdC P t (fun l : List Int => [.ro false l.length (intsA k l)]) (fun l => (∀ z ∈ l, (Lit.int k z).wf = true) ∧ l.length ≤ maxLen) :=
  ⟨fun _ => h1.symm, fun H enc W base spare held n cs x hx => by
    obtain ⟨l, h3, h4, h5⟩ := rd_ints ht he h2 hx
    exact ⟨l, ⟨h3, h4⟩, h5⟩⟩
theorem RdC.array2 {t e : TypeId} {α : Type} {f : α → List AV} {good : α → Prop} (ht : P.underlying t = some (.array 2 e)) (h1 : P.cellsOf t = 2 * P.cellsOf e) (h : RdC P e f good) :
    RdC P t (fun p : α × α => f p.1 ++ f p.2) (fun p => good p.1 ∧ good p.2) :=
  ⟨fun p => by rw [List.length_append, h.len, h.len, h1]; omega, fun H enc W base spare held n cs x hx => by
    obtain ⟨xs, m, _, _, hl, hlen, hi⟩ := DataW.trod_array ht hx
    have h0 := hi 0 (by omega)
    have h2 := hi 1 (by omega)
    rw [List.getElem?_eq_getElem (by omega)] at h0 h2
    obtain ⟨a, g1, r1⟩ := h.rd _ _ _ _ _ _ _ _ _ h0
    obtain ⟨b, g2, r2⟩ := h.rd _ _ _ _ _ _ _ _ _ h2
    refine ⟨(a, b), ⟨g1, g2⟩, ?_⟩
    have := RelL.glue (o := 0) (by simpa using r1) (RelL.glueEnd (o := 0 + P.cellsOf e) (by simpa using r2) (by omega))
    simpa using this⟩

/-- Fields, one after the other, from cell o on. -/
structure FR (P : Program) (fs : List Field) (o m : Nat) {α : Type} (f : α → List AV) (good : α → Prop) : Prop where
  len : ∀ a, (f a).length = m
  rd : ∀ (H : Type) (enc : TypeId × Value → H) (W : World) (base : Nat) (spare : Nat → Bool) (held : Bool) (cs : List Value), cs.length = o + m →
    (∀ fd ∈ fs, ∃ (n : Nat) (y : DataW H × List MemPlace), DataW.trod enc P W base spare held n fd.type ((cs.drop fd.offset).take (P.cellsOf fd.type)) = some y) → ∃ a, good a ∧ RelL (Old W) W (f a) (cs.drop o)
theorem FR.nil {o : Nat} : FR P [] o 0 (fun _ : Unit => []) (fun _ => True) :=
  ⟨fun _ => rfl, fun H enc W base spare held cs hl _ => ⟨(), trivial, by rw [List.drop_of_length_le (by omega)]; exact RelL.nil⟩⟩
theorem FR.cons {fd : Field} {fs : List Field} {o k m : Nat} {α β : Type} {f : α → List AV} {good : α → Prop} {g : β → List AV} {good' : β → Prop} (h : RdC P fd.type f good) (ho : fd.offset = o) (hk : P.cellsOf fd.type = k) (hs : FR P fs (o + k) m g good') :
    FR P (fd :: fs) o (k + m) (fun p : α × β => f p.1 ++ g p.2) (fun p => good p.1 ∧ good' p.2) :=
  ⟨fun p => by rw [List.length_append, h.len, hs.len, hk], fun H enc W base spare held cs hl hall => by
    obtain ⟨n, y, h1⟩ := hall fd (List.mem_cons_self ..)
    rw [ho, hk] at h1
    obtain ⟨a, h2, h3⟩ := h.rd H enc W base spare held _ _ _ h1
    obtain ⟨b, h4, h5⟩ := hs.rd H enc W base spare held cs (by omega) (fun fd hfd => hall fd (List.mem_cons_of_mem _ hfd))
    exact ⟨(a, b), ⟨h2, h4⟩, RelL.glue h3 h5⟩⟩
theorem RdC.struct {t : TypeId} {fs : List Field} {m : Nat} {α : Type} {f : α → List AV} {good : α → Prop} (ht : P.underlying t = some (.struct fs.toArray)) (hm : P.cellsOf t = m) (h : FR P fs 0 m f good) : RdC P t f good :=
  ⟨fun a => by rw [h.len, hm], fun H enc W base spare held n cs x hx => by
    obtain ⟨xs, n', _, _, hl, hlen, hf⟩ := DataW.trod_struct ht hx
    obtain ⟨a, h1, h2⟩ := h.rd H enc W base spare held cs (by omega) (fun fd hfd => by
      obtain ⟨i, hi, rfl⟩ := List.getElem_of_mem hfd
      have h0 := hf i fs[i] (by simp [hi])
      have hxi : i < xs.length := by rw [hlen]; simpa using hi
      rw [List.getElem?_eq_getElem hxi] at h0
      exact ⟨n', _, h0⟩)
    exact ⟨a, h1, by simpa using h2⟩⟩
theorem RdC.map {t : TypeId} {α β : Type} {f : α → List AV} {good : α → Prop} {g : β → List AV} {good' : β → Prop} (h : RdC P t f good) (φ : α → β) (hφ : ∀ a, good a → good' (φ a) ∧ f a = g (φ a)) (hl : ∀ b, (g b).length = P.cellsOf t) : RdC P t g good' :=
  ⟨hl, fun H enc W base spare held n cs x hx => by
    obtain ⟨a, h1, h2⟩ := h.rd H enc W base spare held n cs x hx
    exact ⟨φ a, (hφ a h1).1, (hφ a h1).2 ▸ h2⟩⟩
theorem RdC.reads {t : TypeId} {α : Type} {f : α → List AV} {good : α → Prop} (h : RdC P t f good) (g : α → AV) (hg : ∀ a, f a = [g a]) (hw : ∀ (W : World) (b : Nat) (v : Value), Value.okWide P W .any b t v → v.cells.toList = [v]) : Reads P t (fun x => ∃ a, good a ∧ x = g a) :=
  fun H enc W base b0 spare held v d p hv ⟨n, hx⟩ => by
    obtain ⟨a, h1, h2⟩ := h.rd H enc W base spare held n _ _ hx
    rw [hg] at h2
    exact ⟨g a, ⟨a, h1, rfl⟩, relV_of_one (hw _ _ _ hv) h2⟩
theorem RdC.readsAgg {t : TypeId} {α : Type} {f : α → List AV} {good : α → Prop} (h : RdC P t f good) (hw : ∀ (W : World) (b : Nat) (v : Value), Value.okWide P W .any b t v → ∃ cs, v = .agg cs) : Reads P t (fun x => ∃ a, good a ∧ x = .agg (f a)) :=
  fun H enc W base b0 spare held v d p hv ⟨n, hx⟩ => by
    obtain ⟨cs, rfl⟩ := hw _ _ _ hv
    obtain ⟨a, h1, h2⟩ := h.rd H enc W base spare held n _ _ hx
    exact ⟨.agg (f a), ⟨a, h1, rfl⟩, relV_of_agg h2⟩
theorem Reads.int {t : TypeId} {k : IntKind} (ht : P.underlying t = some (.int k)) (h1 : P.cellsOf t = 1) : Reads P t (fun x => ∃ z : Int, (Lit.int k z).wf = true ∧ x = .val (.int k z)) := (RdC.int ht h1).reads (fun z => .val (.int k z)) (fun _ => rfl) (fun _ _ _ h => okw_int ht h)
theorem Reads.bool {t : TypeId} (ht : P.underlying t = some .bool) (h1 : P.cellsOf t = 1) : Reads P t (fun x => ∃ z : Bool, True ∧ x = .val (.bool z)) := (RdC.bool ht h1).reads (fun z => .val (.bool z)) (fun _ => rfl) (fun _ _ _ h => okw_bool ht h)
theorem Reads.bytes {t e : TypeId} (ht : P.underlying t = some (.slice e)) (he : P.underlying e = some (.int .u8)) (h1 : P.cellsOf t = 1) (h2 : P.cellsOf e = 1) : Reads P t (fun x => ∃ l : List UInt8, l.length ≤ maxLen ∧ x = roB l) := (RdC.bytes ht he h1 h2).reads roB (fun _ => rfl) (fun _ _ _ h => okw_slice ht h)
theorem Reads.ints {t e : TypeId} {k : IntKind} (ht : P.underlying t = some (.slice e)) (he : P.underlying e = some (.int k)) (h1 : P.cellsOf t = 1) (h2 : P.cellsOf e = 1) :
    Reads P t (fun x => ∃ l : List Int, ((∀ z ∈ l, (Lit.int k z).wf = true) ∧ l.length ≤ maxLen) ∧ x = .ro false l.length (intsA k l)) := (RdC.ints ht he h1 h2).reads (fun l => .ro false l.length (intsA k l)) (fun _ => rfl) (fun _ _ _ h => okw_slice ht h)
theorem Reads.slice {t e : TypeId} {α : Type} {f : α → List AV} {good : α → Prop} (ht : P.underlying t = some (.slice e)) (h1 : P.cellsOf t = 1) (hpos : 0 < P.cellsOf e) (h : RdC P e f good) :
    Reads P t (fun x => ∃ l : List α, ((∀ a ∈ l, good a) ∧ l.length ≤ maxLen) ∧ x = .ro false l.length (l.flatMap f)) := (RdC.slice ht h1 hpos h).reads (fun l => .ro false l.length (l.flatMap f)) (fun _ => rfl) (fun _ _ _ h => okw_slice ht h)

/-- All arguments. -/
def ReadsL (P : Program) : List TypeId → List (AV → Prop) → Prop
  | [], [] => True
  | t :: ts, φ :: φs => Reads P t φ ∧ ReadsL P ts φs
  | _, _ => False
theorem ReadsL.nil : ReadsL P [] [] := trivial
theorem ReadsL.cons {t : TypeId} {ts : List TypeId} {φ : AV → Prop} {φs : List (AV → Prop)} (h : Reads P t φ) (hs : ReadsL P ts φs) : ReadsL P (t :: ts) (φ :: φs) := ⟨h, hs⟩
def AllOf : List (AV → Prop) → (List AV → Prop) → Prop
  | [], K => K []
  | φ :: φs, K => ∀ x, φ x → AllOf φs (fun xs => K (x :: xs))

theorem readAll {H : Type} {enc : TypeId × Value → H} {W : World} {base b0 : Nat} {spare : Nat → Bool} {held : Bool} : ∀ {ts : List TypeId} {φs : List (AV → Prop)} {K : List AV → Prop} {vs : List Value} {ds : List (DataW H)} {ps : List MemPlace},
    ReadsL P ts φs → AllOf φs K → (∀ (j : Nat) t v, ts[j]? = some t → vs[j]? = some v → Value.okWide P W .any b0 t v) → DataW.TrodAll enc P W base spare held ts vs ds ps → ∃ xs, K xs ∧ RelL (Old W) W xs vs
  | [], [], K, vs, ds, ps, _, hK, _, hT => by
    obtain ⟨rfl, _, _⟩ := trodAll_nil hT
    exact ⟨[], hK, RelL.nil⟩
  | [], _ :: _, _, _, _, _, h, _, _, _ => h.elim
  | _ :: _, [], _, _, _, _, h, _, _, _ => h.elim
  | t :: ts, φ :: φs, K, vs, ds, ps, h, hK, hv, hT => by
    obtain ⟨v0, vs0, d0, ds0, p0, q0, rfl, rfl, rfl, h0, r0⟩ := trodAll_cons hT
    obtain ⟨x, h1, h2⟩ := h.1 H enc W base b0 spare held v0 d0 p0 (hv 0 t v0 rfl rfl) h0
    obtain ⟨xs, h3, h4⟩ := readAll h.2 (hK x h1) (fun j t v a b => hv (j + 1) t v a b) r0
    exact ⟨x :: xs, h3, RelL.cons h2 h4⟩
end

theorem law_contract {f : FuncId} {fn : Func} {s : ChangeSpec} {H : Type} (enc : TypeId × Value → H) {ts : List TypeId} {φs : List (AV → Prop)} (hp : fn.params.toList = ts) (hr : ReadsL Try.prog ts φs)
    (h : AllOf φs fun xs => Sp Try.prog f xs [] (Is (.val (.bool true)))) {W : World} {base : Nat} {args : Array Value} {ds gs : List (DataW H)} {before : List MemPlace}
    (hval : ∀ (j : Nat) t v, fn.params[j]? = some t → args[j]? = some v → Value.okWide Try.prog W .any base t v)
    (hW : DataW.Whole enc Try.prog fn.params.toList s.vars false W args.toList ds gs before)
    (post : ∀ W', Ext W W' → s.post enc Try.prog fn false true false false W args (.bool true) W') :
    Calls Try.prog f args W fun e W' => ∃ v, e = .returned v ∧ s.post enc Try.prog fn false true false false W args v W' := by
  obtain ⟨p, q, hA, hV, rfl, hfz, hnd⟩ := hW
  rw [hp] at hA
  obtain ⟨xs, hS, hR⟩ := readAll (b0 := base) hr h (fun j t v h1 h2 => hval j t v (by rw [← Array.getElem?_toList, hp]; exact h1) (by rw [← Array.getElem?_toList]; exact h2)) hA
  have hc := hS W (Old W) args.toList (fun b hb => hb) (fun e he => by cases he) .nil hR
  rw [Array.toArray_toList] at hc
  refine hc.mono ?_
  rintro e W' ⟨u, r, H', R', rfl, ⟨rfl, rfl⟩, hs, hv⟩
  obtain rfl := hv.val_inv
  exact ⟨_, rfl, post W' (hs.mods.mono fun b _ ⟨e, he, _⟩ => by cases he)⟩
end Go.Proofs.Ytbmndjjaaeambaa.A

/-
  Messages and options as arguments.
-/
namespace Go.Proofs.Ytbmndjjaaeambaa.By
open Go.RowKit L A
set_option linter.unusedVariables false
theorem i64_in {z : Int} (h : (Lit.int .i64 z).wf = true) : -9223372036854775808 ≤ z ∧ z ≤ 9223372036854775807 := by
  simpa [Lit.wf, IntKind.min, IntKind.max, IntKind.signed, IntKind.bits] using h
def GoodO (o : Opt) : Prop := (Lit.int .i64 o.num).wf = true ∧ o.val.length ≤ maxLen
def GoodM (m : Msg) : Prop := ((Lit.int .i64 m.ty).wf = true ∧ (Lit.int .i64 m.code).wf = true ∧ (Lit.int .i64 m.id).wf = true) ∧ m.tok.length ≤ maxLen ∧ ((∀ o ∈ m.opts, GoodO o) ∧ m.opts.length ≤ maxLen) ∧ m.pay.length ≤ maxLen
theorem rdOpt : RdC Try.prog 62 cellsO GoodO :=
  (RdC.struct Try.underlying62 (by kernel_rfl)
    (.cons (k := 1) (RdC.int Try.underlying3 (by kernel_rfl)) rfl (by kernel_rfl)
    (.cons (k := 1) (RdC.bytes Try.underlying26 Try.underlying5 (by kernel_rfl) (by kernel_rfl)) rfl (by kernel_rfl) .nil))).map
    (fun p => ⟨p.1, p.2.1⟩) (fun p h => ⟨⟨h.1, h.2.1⟩, rfl⟩) (fun _ => by show 2 = _; kernel_rfl)
theorem rdMsg : RdC Try.prog 29 cellsM GoodM :=
  (RdC.struct Try.underlying29 (by kernel_rfl)
    (.cons (k := 1) (RdC.int Try.underlying3 (by kernel_rfl)) rfl (by kernel_rfl)
    (.cons (k := 1) (RdC.int Try.underlying3 (by kernel_rfl)) rfl (by kernel_rfl)
    (.cons (k := 1) (RdC.int Try.underlying3 (by kernel_rfl)) rfl (by kernel_rfl)
    (.cons (k := 1) (RdC.bytes Try.underlying26 Try.underlying5 (by kernel_rfl) (by kernel_rfl)) rfl (by kernel_rfl)
    (.cons (k := 1) (RdC.slice Try.underlying27 (by kernel_rfl) (of_decide_eq_true (by kernel_rfl)) rdOpt) rfl (by kernel_rfl)
    (.cons (k := 1) (RdC.bytes Try.underlying26 Try.underlying5 (by kernel_rfl) (by kernel_rfl)) rfl (by kernel_rfl) .nil))))))).map
    (fun p => ⟨p.1, p.2.1, p.2.2.1, p.2.2.2.1, p.2.2.2.2.1, p.2.2.2.2.2.1⟩) (fun p h => ⟨⟨⟨h.1, h.2.1, h.2.2.1⟩, h.2.2.2.1, h.2.2.2.2.1, h.2.2.2.2.2.1⟩, rfl⟩) (fun _ => by show 6 = _; kernel_rfl)
end Go.Proofs.Ytbmndjjaaeambaa.By

namespace Go.Proofs.Ytbmndjjaaeambaa.LwK
open Go.ChangeShapes Go.WideShapes Go.ChangeAt Go.RowKit L A By
set_option linter.unusedVariables false

theorem contract (H : Type) (enc : TypeId × Value → H) (W : World) (base : Nat) (args : Array Value) (ds gs : List (DataW H)) (before : List MemPlace)
    (hval : ∀ (j : Nat) t v, Try.f7.params[j]? = some t → args[j]? = some v → Value.okWide Try.prog W .any base t v)
    (hW : DataW.Whole enc Try.prog Try.f7.params.toList Rows.splitPacksSpec.vars false W args.toList ds gs before) :
    Calls Try.prog 7 args W fun e W' => ∃ v, e = .returned v ∧ Rows.splitPacksSpec.post enc Try.prog Try.f7 false true false false W args v W' := by
  have hW' := hW
  obtain ⟨p, q, hA0, hV, rfl, hfz, hnd⟩ := hW
  have hA : DataW.TrodAll enc Try.prog W 0 (fun _ => true) true Try.f7.params.toList args.toList ds p := hA0
  rw [Try.params7] at hA
  obtain ⟨v0, vs0, d0, ds0, p0, q0, ha0, rfl, hp0, h0, r0⟩ := trodAll_cons hA
  obtain ⟨v1, vs1, d1, ds1, p1, q1, ha1, rfl, hp1, h1, r1⟩ := trodAll_cons r0
  obtain ⟨v2, vs2, d2, ds2, p2, q2, ha2, rfl, hp2, h2, r2⟩ := trodAll_cons r1
  obtain ⟨v3, vs3, d3, ds3, p3, q3, ha3, rfl, hp3, h3, r3⟩ := trodAll_cons r2
  obtain ⟨v4, vs4, d4, ds4, p4, q4, ha4, rfl, hp4, h4, r4⟩ := trodAll_cons r3
  obtain ⟨-, rfl, -⟩ := trodAll_nil r4
  obtain ⟨rfl, rfl⟩ := trodVars_none hV
  refine law_contract enc (ts := [29, 30, 26, 3, 3]) (by rw [Try.params7]) (ReadsL.cons (RdC.readsAgg (rdMsg) (fun W b v h => by unfold Value.okWide at h; rw [Try.underlying29] at h; obtain ⟨cs, h, _⟩ := h; exact ⟨cs, h⟩)) (ReadsL.cons (Reads.ints Try.underlying30 Try.underlying3 (by kernel_rfl) (by kernel_rfl)) (ReadsL.cons (Reads.bytes Try.underlying26 Try.underlying5 (by kernel_rfl) (by kernel_rfl)) (ReadsL.cons (Reads.int Try.underlying3 (by kernel_rfl)) (ReadsL.cons (Reads.int Try.underlying3 (by kernel_rfl)) (ReadsL.nil)))))) (φs := [_, _, _, _, _]) ?_ hval hW' (fun W' hE => lawPost hW' rfl rfl rfl Try.underlying4 (by rw [Try.params7]; decide) hE)
  rintro _ ⟨x0, h0, rfl⟩ _ ⟨x1, h1, rfl⟩ _ ⟨x2, h2, rfl⟩ _ ⟨x3, h3, rfl⟩ _ ⟨x4, h4, rfl⟩
  exact lawPacks_fn x0 x1 x2 x3 x4 h0.2.2.1.2 h1.2 (i64_in h4)

set_option maxRecDepth 100000 in
theorem lifted (os : Os) (started : os.Started) (H : Type) (enc : TypeId × Value → H) :
    ReturnsInHanded {} Try.checked os 7 .any (Rows.splitPacksSpec.pre6 enc Try.prog Try.f7 Rows.splitPacksRow.domain false) (Rows.splitPacksSpec.post enc Try.prog Try.f7 false true false false) := by
  refine returnsInHanded_of_change (C := Try.checked) own started (by kernel_rfl) Try.func7
    (ChangeSpec.witness6 (enc := enc) (C := Try.checked) false ⟨#[], #[.agg #[.int .i64 0, .int .i64 0, .int .i64 0, .slice none 0 0, .slice none 0 0, .slice none 0 0], .slice none 0 0, .slice none 0 0, .int .i64 0, .int .i64 0], []⟩ 8 (by kernel_rfl) (by kernel_rfl) (by kernel_rfl) (by kernel_rfl)) ?_
  intro W base args ds gs before hval hW _ _
  exact contract H enc W base args ds gs before hval hW

theorem over : Rows.splitPacksRow.holds Try.pinned (OpenSpec.ofChange Rows.splitPacksSpec) :=
  OpenClaim.holds_of_wide 7 Try.f7 rfl rfl rfl rfl rfl rfl rfl ⟨rfl, rfl, rfl, rfl, rfl⟩ rfl rfl rfl rfl rfl (by kernel_rfl) Try.func7 (by kernel_rfl)
    (of_decide_eq_true (by kernel_rfl)) (by unfold Func.isWrapper; first | (rw [if_pos (by decide +kernel)]; kernel_rfl) | (rw [if_neg (by decide +kernel)]; exact ⟨rfl, rfl⟩))
    (fun os started H enc _ => lifted os started H enc)
theorem splitPacks : Rows.SplitPacksSaid := over
end Go.Proofs.Ytbmndjjaaeambaa.LwK
