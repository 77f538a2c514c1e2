/-
  Layer 15: CoapEdges.
-/
import Derived.Test.YtiddmpmpjdnmeaaCov
import Derived.Test.YtiddmpmpjdnmeaaSy
namespace Go.Proofs.Ytiddmpmpjdnmeaa.By
open Go.RowKit L A Dk
set_option linter.unusedVariables false
set_option linter.unusedSimpArgs false
attribute [local irreducible] AW AQ AO
theorem pick8 (t0 t1 t2 t3 t4 t5 t6 t7 : Int) (b : Int) (h0 : 0 ≤ t0 ∧ t0 ≤ b) (h1 : 0 ≤ t1 ∧ t1 ≤ b) (h2 : 0 ≤ t2 ∧ t2 ≤ b) (h3 : 0 ≤ t3 ∧ t3 ≤ b) (h4 : 0 ≤ t4 ∧ t4 ≤ b) (h5 : 0 ≤ t5 ∧ t5 ≤ b) (h6 : 0 ≤ t6 ∧ t6 ≤ b) (h7 : 0 ≤ t7 ∧ t7 ≤ b) (a : Int) :
    ∃ x : Int, 0 ≤ x ∧ x ≤ b ∧ ([.val (.int .i64 t0), .val (.int .i64 t1), .val (.int .i64 t2), .val (.int .i64 t3), .val (.int .i64 t4), .val (.int .i64 t5), .val (.int .i64 t6), .val (.int .i64 t7)] : List AV)[(a % 8).toNat * 1]? = some (.val (.int .i64 x)) := by
  have q1 := Int.emod_nonneg a (show (8 : Int) ≠ 0 by decide)
  have q2 := Int.emod_lt_of_pos a (show (0 : Int) < 8 by decide)
  generalize a % 8 = z at q1 q2
  rcases (show z = 0 ∨ z = 1 ∨ z = 2 ∨ z = 3 ∨ z = 4 ∨ z = 5 ∨ z = 6 ∨ z = 7 by omega) with rfl | rfl | rfl | rfl | rfl | rfl | rfl | rfl
  · exact ⟨_, h0.1, h0.2, rfl⟩
  · exact ⟨_, h1.1, h1.2, rfl⟩
  · exact ⟨_, h2.1, h2.2, rfl⟩
  · exact ⟨_, h3.1, h3.2, rfl⟩
  · exact ⟨_, h4.1, h4.2, rfl⟩
  · exact ⟨_, h5.1, h5.2, rfl⟩
  · exact ⟨_, h6.1, h6.2, rfl⟩
  · exact ⟨_, h7.1, h7.2, rfl⟩
theorem pick6 (a : Int) : ∃ x : Nat, x ≤ 1034 ∧ ([.val (.int .i64 0), .val (.int .i64 12), .val (.int .i64 13), .val (.int .i64 268), .val (.int .i64 269), .val (.int .i64 1034)] : List AV)[(a % 6).toNat * 1]? = some (.val (.int .i64 (x : Int))) := by
  have q1 := Int.emod_nonneg a (show (6 : Int) ≠ 0 by decide)
  have q2 := Int.emod_lt_of_pos a (show (0 : Int) < 6 by decide)
  generalize a % 6 = z at q1 q2
  rcases (show z = 0 ∨ z = 1 ∨ z = 2 ∨ z = 3 ∨ z = 4 ∨ z = 5 by omega) with rfl | rfl | rfl | rfl | rfl | rfl
  · exact ⟨0, by omega, rfl⟩
  · exact ⟨12, by omega, rfl⟩
  · exact ⟨13, by omega, rfl⟩
  · exact ⟨268, by omega, rfl⟩
  · exact ⟨269, by omega, rfl⟩
  · exact ⟨1034, by omega, rfl⟩
abbrev zB (n : Nat) : List UInt8 := List.replicate n 0
abbrev edM (x y : Int) (s1 s2 p : Nat) : Msg := ⟨0, 2, 0, [], [⟨x, zB s1⟩, ⟨y, zB s2⟩], zB p⟩
theorem dec_enc (m : Msg) : (encR m).2 = 0 → decS (encR m).1 = (m, 0) := fun h => by
  by_cases hv : ValM m
  · rw [encR_t hv]; exact decS_raw hv
  · rw [encR_f hv] at h; cases h
theorem edge_end (m : Msg) : (((encR m).2 != 0 || (decS (encR m).1).2 == 0 && decide ((decS (encR m).1).1 = m)) && true) = true := by
  by_cases h : (encR m).2 = 0
  · rw [dec_enc m h]; simp
  · simp [h]
theorem encR_len (m : Msg) : (encR m).1.length ≤ 1000000 := by
  by_cases hv : ValM m
  · rw [encR_t hv]; have := hv.2; simp only; omega
  · rw [encR_f hv]; simp
theorem decS_len (b : List UInt8) : (decS b).1.opts.length ≤ 1000000 := by
  unfold decS
  (repeat' split) <;> simp only [Msg.none, List.length_nil] <;> first | omega | skip
  rename_i h
  have := (Classical.choose_spec h).1.2.1
  omega
set_option maxHeartbeats 4000000 in
theorem edges_fn (a b n k : Int) (hn : -9223372036854775808 ≤ n ∧ n ≤ 9223372036854775807) : Sp Try.prog 4 [.val (.int .i64 a), .val (.int .i64 b), .val (.int .i64 n), .val (.int .i64 k)] [] (Is (.val (.bool true))) := by
  obtain ⟨x, hx0, hx1, hx⟩ := pick8 0 1 12 13 268 269 300 65535 65535 (by omega) (by omega) (by omega) (by omega) (by omega) (by omega) (by omega) (by omega) a
  obtain ⟨d, hd0, hd1, hd⟩ := pick8 0 1 12 13 268 269 270 (65535 - x) 65535 (by omega) (by omega) (by omega) (by omega) (by omega) (by omega) (by omega) (by omega) b
  obtain ⟨s1, hs1, hs1'⟩ := pick6 n
  obtain ⟨s2, hs2, hs2'⟩ := pick6 (IntKind.i64.wrap (n.tdiv 6))
  have q1 := Int.emod_nonneg k (show (3 : Int) ≠ 0 by decide)
  have q2 := Int.emod_lt_of_pos k (show (0 : Int) < 3 by decide)
  obtain ⟨p, hpk⟩ : ∃ p : Nat, k % 3 = (p : Int) := ⟨(k % 3).toNat, by omega⟩
  have q3 := Int.emod_nonneg a (show (8 : Int) ≠ 0 by decide)
  have q4 := Int.emod_lt_of_pos a (show (0 : Int) < 8 by decide)
  have q5 := Int.emod_nonneg b (show (8 : Int) ≠ 0 by decide)
  have q6 := Int.emod_lt_of_pos b (show (0 : Int) < 8 by decide)
  have q7 := Int.emod_nonneg n (show (6 : Int) ≠ 0 by decide)
  have q8 := Int.emod_lt_of_pos n (show (0 : Int) < 6 by decide)
  have q9 := Int.emod_nonneg (IntKind.i64.wrap (n.tdiv 6)) (show (6 : Int) ≠ 0 by decide)
  have q10 := Int.emod_lt_of_pos (IntKind.i64.wrap (n.tdiv 6)) (show (0 : Int) < 6 by decide)
  refine Sp.enter Try.func4 rfl _ Try.ntmps4 rfl (fun w0 R0 => ?_)
  refine AW.seq ?_
  refine AW.region ?_
  refine AO.op (O.assign rfl rfl) rfl rfl rfl ?_
  refine AO.nil ?_
  refine AQ.thenN ?_
  refine AW.seq ?_
  refine AW.region ?_
  refine AO.opB (O.buildSlice rfl rfl rfl (by rfl) (by rfl) (by rfl) (by rfl)) rfl rfl rfl ?_
  intro B1
  refine AO.g ?_
  (refine G.freezeSl 0 18 rfl rfl ⟨Nat.le_refl _, by unfold maxLen; omega⟩ ?_)
  refine G.unfull 18 rfl ?_
  refine AO.u ?_
  dsimp only [List.eraseIdx]
  refine AO.op (O.move rfl rfl) rfl rfl rfl ?_
  refine AO.op (O.call rfl Try.func16 rfl rfl rfl (Dk.mod_fn _ _ (by omega) (by omega))) rfl rfl rfl ?_
  refine AO.op (O.idxR rfl rfl rfl ⟨(by omega), (by omega)⟩) rfl rfl rfl ?_
  refine AO.op (O.loadR rfl rfl (by assumption)) rfl rfl rfl ?_
  refine AO.op (O.assign rfl rfl) rfl rfl rfl ?_
  refine AO.nil ?_
  refine AQ.thenN ?_
  refine AW.seq ?_
  refine AW.region ?_
  refine AO.op (O.move rfl rfl) rfl rfl rfl ?_
  refine AO.op (O.move rfl rfl) rfl rfl rfl ?_
  refine AO.op (O.sub rfl rfl rfl (by exact wI64 (by omega))) rfl rfl rfl ?_
  refine AO.opB (O.buildSlice rfl rfl rfl (by rfl) (by rfl) (by rfl) (by rfl)) rfl rfl rfl ?_
  intro B2
  refine AO.g ?_
  (refine G.freezeSl 0 26 rfl rfl ⟨Nat.le_refl _, by unfold maxLen; omega⟩ ?_)
  refine G.unfull 26 rfl ?_
  refine AO.u ?_
  dsimp only [List.eraseIdx]
  refine AO.op (O.move rfl rfl) rfl rfl rfl ?_
  refine AO.op (O.call rfl Try.func16 rfl rfl rfl (Dk.mod_fn _ _ (by omega) (by omega))) rfl rfl rfl ?_
  refine AO.op (O.idxR rfl rfl rfl ⟨(by omega), (by omega)⟩) rfl rfl rfl ?_
  refine AO.op (O.loadR rfl rfl (by assumption)) rfl rfl rfl ?_
  refine AO.op (O.add rfl rfl rfl (by exact wI64 (by omega))) rfl rfl rfl ?_
  refine AO.op (O.assign rfl rfl) rfl rfl rfl ?_
  refine AO.nil ?_
  refine AQ.thenN ?_
  refine AW.seq ?_
  refine AW.regionD 23 (by kernel_rfl) (by kernel_rfl) ?_
  simp only [List.take_succ_cons, List.take_zero, List.drop_succ_cons, List.drop_zero]
  refine FA.op (O.move rfl rfl) rfl rfl rfl rfl ?_
  refine FA.op (OpW.frz (O.buildSlice rfl rfl rfl (by rfl) (by rfl) (by rfl) (by rfl)) (by (unfold maxLen; omega))) rfl rfl rfl rfl ?_
  refine FA.op (O.move rfl rfl) rfl rfl rfl rfl ?_
  refine FA.op (O.call rfl Try.func16 rfl rfl rfl (Dk.mod_fn _ _ (by omega) (by omega))) rfl rfl rfl rfl ?_
  refine FA.op (O.idxR rfl rfl rfl ⟨(by omega), (by omega)⟩) rfl rfl rfl rfl ?_
  refine FA.op (O.loadR rfl rfl (by assumption)) rfl rfl rfl rfl ?_
  refine FA.op (O.makeB rfl rfl rfl (by rfl) (by rfl) (by omega) (by (unfold maxLen; omega)) (by rfl)) rfl rfl rfl rfl ?_
  refine FA.op (O.build rfl rfl rfl (by rfl)) rfl rfl rfl rfl ?_
  refine FA.op (O.move rfl rfl) rfl rfl rfl rfl ?_
  refine FA.op (OpW.frz (O.buildSlice rfl rfl rfl (by rfl) (by rfl) (by rfl) (by rfl)) (by (unfold maxLen; omega))) rfl rfl rfl rfl ?_
  refine FA.op (O.move rfl rfl) rfl rfl rfl rfl ?_
  refine FA.op (O.quo rfl rfl rfl (by omega) (by rfl)) rfl rfl rfl rfl ?_
  refine FA.op (O.call rfl Try.func16 rfl rfl rfl (Dk.mod_fn _ _ (by omega) (by omega))) rfl rfl rfl rfl ?_
  refine FA.op (O.idxR rfl rfl rfl ⟨(by omega), (by omega)⟩) rfl rfl rfl rfl ?_
  refine FA.op (O.loadR rfl rfl (by assumption)) rfl rfl rfl rfl ?_
  refine FA.op (O.makeB rfl rfl rfl (by rfl) (by rfl) (by omega) (by (unfold maxLen; omega)) (by rfl)) rfl rfl rfl rfl ?_
  refine FA.op (O.build rfl rfl rfl (by rfl)) rfl rfl rfl rfl ?_
  refine FA.op (OpW.frz (O.buildSlice rfl rfl rfl (by rfl) (by rfl) (by rfl) (by rfl)) (by (unfold maxLen; omega))) rfl rfl rfl rfl ?_
  refine FA.op (O.move rfl rfl) rfl rfl rfl rfl ?_
  refine FA.op (O.call rfl Try.func16 rfl rfl rfl (Dk.mod_fn _ _ (by omega) (by omega))) rfl rfl rfl rfl ?_
  refine FA.op (O.makeB rfl rfl rfl (by assumption) (by assumption) (by omega) (by (unfold maxLen; omega)) (by rfl)) rfl rfl rfl rfl ?_
  refine FA.op (O.build rfl rfl rfl (by rfl)) rfl rfl rfl rfl ?_
  refine FA.opN (O.alloc rfl (by (dsimp only [List.set, List.append, List.cons_append, List.nil_append, roB_cells, roI_cells, roO_cells, splice, ofConst, AV.cells, List.map, List.map_cons, List.map_nil, List.take, List.drop, Nat.zero_add, Nat.add_zero, Nat.reduceAdd, Nat.reduceMul, Nat.zero_mul, Value.cells, List.toList_toArray, zerosA, List.replicate, List.flatten, List.append_nil]; done)) (by rfl)) rfl rfl rfl rfl ?_
  refine FA.nil ?_
  simp only [chosen, List.nil_append, List.cons_append, List.append_nil]
  rintro _ _ ⟨B3, rfl, rfl⟩
  simp only [List.cons_append, List.nil_append]
  (refine AO.store (i := 0) rfl rfl rfl rfl rfl rfl (by rfl) (by rfl) (by rfl) (by (dsimp only [List.set, List.append, List.cons_append, List.nil_append, roB_cells, roI_cells, roO_cells, splice, ofConst, AV.cells, List.map, List.map_cons, List.map_nil, List.take, List.drop, Nat.zero_add, Nat.add_zero, Nat.reduceAdd, Nat.reduceMul, Nat.zero_mul, Value.cells, List.toList_toArray, zerosA, List.replicate, List.flatten, List.append_nil]; done)) (by (dsimp only [List.set, List.append, List.cons_append, List.nil_append, roB_cells, roI_cells, roO_cells, splice, ofConst, AV.cells, List.map, List.map_cons, List.map_nil, List.take, List.drop, Nat.zero_add, Nat.add_zero, Nat.reduceAdd, Nat.reduceMul, Nat.zero_mul, Value.cells, List.toList_toArray, zerosA, List.replicate, List.flatten, List.append_nil]; done)) ?_)
  refine AO.nil ?_
  refine AQ.thenN ?_
  refine AW.seq ?_
  refine AW.region ?_
  (refine AO.op (O.loadK rfl rfl (by repeat (exact List.Mem.head _)) (by (dsimp only [List.set, List.append, List.cons_append, List.nil_append, roB_cells, roI_cells, roO_cells, splice, ofConst, AV.cells, List.map, List.map_cons, List.map_nil, List.take, List.drop, Nat.zero_add, Nat.add_zero, Nat.reduceAdd, Nat.reduceMul, Nat.zero_mul, Value.cells, List.toList_toArray, zerosA, List.replicate, List.flatten, List.append_nil]; done)) (by rfl)) rfl rfl rfl ?_)
  refine AO.op (O.callC rfl Try.func20 rfl rfl rfl (enc_fn (edM x (x + d) s1 s2 p)) (by repeat (first | exact CoeL.nil | refine CoeL.cons Coe.rfl ?_ | refine CoeL.cons Coe.nil ?_ | refine CoeL.cons (Coe.agg ?_) ?_))) rfl rfl rfl ?_
  refine AO.op (O.move rfl rfl) rfl rfl rfl ?_
  refine AO.op (O.extract rfl rfl rfl) rfl rfl rfl ?_
  refine AO.op (O.extract rfl rfl rfl) rfl rfl rfl ?_
  refine AO.op (O.assign rfl rfl) rfl rfl rfl ?_
  refine AO.op (O.assign rfl rfl) rfl rfl rfl ?_
  refine AO.nil ?_
  refine AQ.thenN ?_
  refine AW.seq ?_
  refine AW.region ?_
  (refine AO.op (O.loadK rfl rfl (by repeat (exact List.Mem.head _)) (by (dsimp only [List.set, List.append, List.cons_append, List.nil_append, roB_cells, roI_cells, roO_cells, splice, ofConst, AV.cells, List.map, List.map_cons, List.map_nil, List.take, List.drop, Nat.zero_add, Nat.add_zero, Nat.reduceAdd, Nat.reduceMul, Nat.zero_mul, Value.cells, List.toList_toArray, zerosA, List.replicate, List.flatten, List.append_nil]; done)) (by rfl)) rfl rfl rfl ?_)
  refine AO.op (O.callC rfl Try.func21 rfl rfl rfl (renc_fn (edM x (x + d) s1 s2 p)) (by repeat (first | exact CoeL.nil | refine CoeL.cons Coe.rfl ?_ | refine CoeL.cons Coe.nil ?_ | refine CoeL.cons (Coe.agg ?_) ?_))) rfl rfl rfl ?_
  refine AO.op (O.move rfl rfl) rfl rfl rfl ?_
  refine AO.op (O.extract rfl rfl rfl) rfl rfl rfl ?_
  refine AO.op (O.extract rfl rfl rfl) rfl rfl rfl ?_
  refine AO.op (O.assign rfl rfl) rfl rfl rfl ?_
  refine AO.op (O.assign rfl rfl) rfl rfl rfl ?_
  refine AO.nil ?_
  refine AQ.thenN ?_
  refine AW.seq ?_
  refine AW.seq ?_
  refine AW.region ?_
  refine AO.op (O.move rfl rfl) rfl rfl rfl ?_
  refine AO.op (O.convS rfl rfl (by rfl)) rfl rfl rfl ?_
  refine AO.op (O.move rfl rfl) rfl rfl rfl ?_
  refine AO.op (O.convS rfl rfl (by rfl)) rfl rfl rfl ?_
  refine AO.op (O.neqS rfl rfl rfl (by rfl)) rfl rfl rfl ?_
  refine AO.op (O.move rfl rfl) rfl rfl rfl ?_
  refine AO.opG rfl rfl rfl (fun hp => O.move rfl rfl) ?_
  refine AO.opG rfl rfl rfl (fun hp => O.move rfl rfl) ?_
  refine AO.opG rfl rfl rfl (fun hp => OpW.force 70 rfl (by exact hp) (OpW.force 71 rfl (by exact hp) (O.neq rfl rfl rfl (by exact bne_eq_false_iff_eq.2 (by omega))))) ?_
  refine AO.op (O.pickOr rfl rfl rfl rfl (fun h => by exact congrArg (fun b => !b) h)) rfl rfl rfl ?_
  refine AO.nil ?_
  refine AQ.thenN ?_
  refine AW.split rfl (fun h => ?_) (fun h => ?_) <;> (try simp only [decide_eq_true_eq, decide_eq_false_iff_not, beq_iff_eq, beq_eq_false_iff_ne, bne_iff_ne, bne_eq_false_iff_eq, Bool.not_eq_true', Bool.not_eq_false', Bool.not_eq_true, Bool.not_eq_false, ne_eq, Int.not_lt, Int.not_le, Bool.and_eq_true, Bool.or_eq_true, Bool.or_eq_false_iff, Bool.and_eq_false_imp, strOf_toList, Decidable.not_not] at h)
  · skip
    exfalso
    (simp at h; done)
  · skip
    refine AW.skip ?_
    refine AQ.thenN ?_
    refine AW.seq ?_
    refine AW.region ?_
    refine AO.op (O.move rfl rfl) rfl rfl rfl ?_
    refine AO.op (O.call rfl Try.func17 rfl rfl rfl (decode_fn _ (encR_len _))) rfl rfl rfl ?_
    refine AO.op (O.move rfl rfl) rfl rfl rfl ?_
    refine AO.op (O.extract rfl rfl rfl) rfl rfl rfl ?_
    refine AO.op (O.extract rfl rfl rfl) rfl rfl rfl ?_
    refine AO.opB (O.alloc rfl (by (dsimp only [List.set, List.append, List.cons_append, List.nil_append, roB_cells, roI_cells, roO_cells, splice, ofConst, AV.cells, List.map, List.map_cons, List.map_nil, List.take, List.drop, Nat.zero_add, Nat.add_zero, Nat.reduceAdd, Nat.reduceMul, Nat.zero_mul, Value.cells, List.toList_toArray, zerosA, List.replicate, List.flatten, List.append_nil]; done)) (by rfl)) rfl rfl rfl ?_
    intro B4
    (refine AO.store (i := 0) rfl rfl rfl rfl rfl rfl (by rfl) (by rfl) (by rfl) (by (dsimp only [List.set, List.append, List.cons_append, List.nil_append, roB_cells, roI_cells, roO_cells, splice, ofConst, AV.cells, List.map, List.map_cons, List.map_nil, List.take, List.drop, Nat.zero_add, Nat.add_zero, Nat.reduceAdd, Nat.reduceMul, Nat.zero_mul, Value.cells, List.toList_toArray, zerosA, List.replicate, List.flatten, List.append_nil]; done)) (by (dsimp only [List.set, List.append, List.cons_append, List.nil_append, roB_cells, roI_cells, roO_cells, splice, ofConst, AV.cells, List.map, List.map_cons, List.map_nil, List.take, List.drop, Nat.zero_add, Nat.add_zero, Nat.reduceAdd, Nat.reduceMul, Nat.zero_mul, Value.cells, List.toList_toArray, zerosA, List.replicate, List.flatten, List.append_nil]; done)) ?_)
    refine AO.op (O.assign rfl rfl) rfl rfl rfl ?_
    refine AO.nil ?_
    refine AQ.thenN ?_
    refine AW.seq ?_
    refine AW.region ?_
    refine AO.op (O.move rfl rfl) rfl rfl rfl ?_
    refine AO.op (O.neq rfl rfl rfl (by rfl)) rfl rfl rfl ?_
    refine AO.op (O.move rfl rfl) rfl rfl rfl ?_
    refine AO.opG rfl rfl rfl (fun hp => O.move rfl rfl) ?_
    refine AO.opG rfl rfl rfl (fun hp => OpW.force 82 rfl (by exact hp) (O.eql rfl rfl rfl (by rfl))) ?_
    refine AO.opG rfl rfl rfl (fun hp => OpW.force 83 rfl (by exact hp) (O.move rfl rfl)) ?_
    (refine AO.opG rfl rfl rfl (fun hp => O.loadK rfl rfl (by repeat (exact List.Mem.head _)) (by (dsimp only [List.set, List.append, List.cons_append, List.nil_append, roB_cells, roI_cells, roO_cells, splice, ofConst, AV.cells, List.map, List.map_cons, List.map_nil, List.take, List.drop, Nat.zero_add, Nat.add_zero, Nat.reduceAdd, Nat.reduceMul, Nat.zero_mul, Value.cells, List.toList_toArray, zerosA, List.replicate, List.flatten, List.append_nil]; done)) (by rfl)) ?_)
    (refine AO.opG rfl rfl rfl (fun hp => O.loadK rfl rfl (by repeat (first | exact List.Mem.head _ | refine List.Mem.tail _ ?_)) (by (dsimp only [List.set, List.append, List.cons_append, List.nil_append, roB_cells, roI_cells, roO_cells, splice, ofConst, AV.cells, List.map, List.map_cons, List.map_nil, List.take, List.drop, Nat.zero_add, Nat.add_zero, Nat.reduceAdd, Nat.reduceMul, Nat.zero_mul, Value.cells, List.toList_toArray, zerosA, List.replicate, List.flatten, List.append_nil]; done)) (by rfl)) ?_)
    refine AO.opG rfl rfl rfl (fun hp => OpW.force 85 rfl (by exact hp) (OpW.force 86 rfl (by exact hp) (O.callC rfl Try.func19 rfl rfl rfl (same_fn (decS (encR (edM x (x + d) s1 s2 p)).1).1 (edM x (x + d) s1 s2 p) (decS_len _)) (by repeat (first | exact CoeL.nil | refine CoeL.cons Coe.rfl ?_ | refine CoeL.cons Coe.nil ?_ | refine CoeL.cons (Coe.agg ?_) ?_))))) ?_
    refine AO.opG rfl rfl rfl (fun hp => OpW.force 84 rfl (by exact hp) (O.pickAnd rfl rfl rfl rfl (fun h => by simp_all))) ?_
    refine AO.op (O.pickOr rfl rfl rfl rfl (fun h => by exact congrArg (fun b => !b) h)) rfl rfl rfl ?_
    refine AO.op (O.move rfl rfl) rfl rfl rfl ?_
    refine AO.opG rfl rfl rfl (fun hp => O.call rfl Try.func10 rfl rfl rfl (awake_fn)) ?_
    refine AO.op (O.pickAnd rfl rfl rfl rfl (fun h => by exact h)) rfl rfl rfl ?_
    refine AO.op (O.assign rfl rfl) rfl rfl rfl ?_
    refine AO.nil ?_
    refine AQ.thenN ?_
    refine AW.ret ?_
    refine AQ.ret1 rfl rfl ⟨_, List.nil_sublist _, .nil⟩ (⟨congrArg (fun z => AV.val (.bool z)) (edge_end _), rfl⟩)
end Go.Proofs.Ytiddmpmpjdnmeaa.By
