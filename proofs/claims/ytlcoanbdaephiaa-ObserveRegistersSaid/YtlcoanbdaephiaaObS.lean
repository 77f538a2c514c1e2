/-
  Layer 19: the law ObserveRegisters, walked.
-/
import Derived.Test.YtlcoanbdaephiaaObQ
namespace Go.Proofs.Ytlcoanbdaephiaa.Ob
open Go.RowKit L A Dk
set_option linter.unusedVariables false
set_option linter.unusedSimpArgs false
attribute [local irreducible] AW AQ AO

theorem regW_len (ws : List Watch) (p : Int) (t k : List UInt8) (now : Int) : (regW ws p t k now).1.length ≤ 1000000 := by
  unfold regW
  split
  · simp
  · split
    · simp
    · simp only [List.length_append, List.length_cons, List.length_nil]; omega
theorem light_short {ws : List Watch} (h : lightB ws = true) : Short ws := by
  simp only [lightB, Bool.and_eq_true, List.all_eq_true, decide_eq_true_eq] at h
  refine ⟨by omega, fun w hw => ?_⟩
  have := h.1 w hw
  simp only [lightW, Bool.not_eq_true', Bool.or_eq_false_iff, decide_eq_false_iff_not, Bool.not_eq_false', decide_eq_true_eq] at this
  omega
theorem app_short {a b : List Watch} (ha : Small a) (hb : Small b) : Short (a ++ b) := by
  refine ⟨by have := ha.1; have := hb.1; simp; omega, fun w hw => ?_⟩
  rcases List.mem_append.1 hw with hw | hw
  · exact ha.short.2 w hw
  · exact hb.short.2 w hw
theorem full_short (m : Nat) (h : m ≤ 17) : Short (fullW m) := by
  refine ⟨by rw [fullW_len]; omega, fun w hw => ?_⟩
  simp only [fullW, List.mem_map, List.mem_range] at hw
  obtain ⟨i, _, rfl⟩ := hw
  simp

set_option maxHeartbeats 4000000 in
theorem lawRegisters_fn (raw : List Watch) (l : List Int) (peer : Int) (tok key : List UInt8) (now : Int) (hl : l.length ≤ maxLen) :
    Sp Try.prog 3 [roW raw, roI l, .val (.int .i64 peer), roB tok, roB key, .val (.int .i64 now)] [] (Is (.val (.bool true))) := by
  refine Sp.enter Try.func3 rfl _ Try.ntmps3 rfl (fun w0 R0 => ?_)
  refine AW.seq ?_
  refine AW.region ?_
  refine AO.op (O.assign rfl rfl) rfl rfl rfl ?_
  refine AO.nil ?_
  refine AQ.thenN ?_
  refine AW.seq ?_
  refine AW.seq ?_
  refine AW.region ?_
  refine AO.op (O.move rfl rfl) rfl rfl rfl ?_
  first | (refine AO.op (O.call rfl Try.func9 rfl rfl rfl (light_fn _)) rfl rfl rfl ?_) | (refine AO.op (O.callC rfl Try.func9 rfl rfl rfl (light_fn _) (by repeat (first | exact CoeL.nil | refine CoeL.cons Coe.rfl ?_ | refine CoeL.cons Coe.nil ?_ | refine CoeL.cons Coe.unfull ?_))) rfl rfl rfl ?_) | (refine AO.op (O.callL rfl Try.func9 rfl rfl rfl (by repeat (first | exact List.Mem.head _ | refine List.Mem.tail _ ?_)) (light_fn _) (by repeat (first | exact LendL.nil | refine LendL.same ?_ | refine LendL.lend ?_))) rfl rfl rfl ?_)
  refine AO.op (O.not rfl rfl (by first | assumption | rfl)) rfl rfl rfl ?_
  refine AO.op (O.move rfl rfl) rfl rfl rfl ?_
  first | (refine AO.opG rfl rfl rfl (fun hp => O.move rfl rfl) ?_) | (refine AO.op (O.move rfl rfl) rfl rfl rfl ?_) | (refine AO.no rfl rfl rfl ?_)
  first | (refine AO.opG rfl rfl rfl (fun hp => OpW.force 32 rfl (by first | exact hp | simp_all) (O.lenR rfl rfl)) ?_) | (refine AO.opG rfl rfl rfl (fun hp => OpW.force 32 rfl (by first | exact hp | simp_all) (O.lenV rfl rfl)) ?_) | (refine AO.opG rfl rfl rfl (fun hp => OpW.force 32 rfl (by first | exact hp | simp_all) (O.lenRow rfl rfl (by repeat (first | exact List.Mem.head _ | refine List.Mem.tail _ ?_)))) ?_) | (refine AO.opG rfl rfl rfl (fun hp => OpW.force 32 rfl (by first | exact hp | simp_all) (O.lenS rfl rfl)) ?_) | (refine AO.op (O.lenR rfl rfl) rfl rfl rfl ?_) | (refine AO.op (O.lenV rfl rfl) rfl rfl rfl ?_) | (refine AO.op (O.lenRow rfl rfl (by repeat (first | exact List.Mem.head _ | refine List.Mem.tail _ ?_))) rfl rfl rfl ?_) | (refine AO.op (O.lenS rfl rfl) rfl rfl rfl ?_) | (refine AO.no rfl rfl rfl ?_)
  first | (refine AO.opG rfl rfl rfl (fun hp => OpW.force 33 rfl (by first | exact hp | simp_all) (O.gtr rfl rfl rfl (by first | exact bTrue (by omega) | exact bFalse (by omega) | assumption | rfl))) ?_) | (refine AO.op (O.gtr rfl rfl rfl (by first | exact bTrue (by omega) | exact bFalse (by omega) | assumption | rfl)) rfl rfl rfl ?_) | (refine AO.no rfl rfl rfl ?_)
  first | (refine AO.op (O.pickOr rfl rfl rfl rfl (fun h => by first | exact congrArg (fun b => !b) h | simp_all)) rfl rfl rfl ?_) | (refine AO.op (O.pickT rfl rfl rfl) rfl rfl rfl ?_) | (refine AO.op (O.pickF rfl rfl rfl) rfl rfl rfl ?_)
  refine AO.op (O.move rfl rfl) rfl rfl rfl ?_
  first | (refine AO.opG rfl rfl rfl (fun hp => O.move rfl rfl) ?_) | (refine AO.op (O.move rfl rfl) rfl rfl rfl ?_) | (refine AO.no rfl rfl rfl ?_)
  first | (refine AO.opG rfl rfl rfl (fun hp => OpW.force 37 rfl (by first | exact hp | simp_all) (O.call rfl Try.func10 rfl rfl rfl (short_fn _))) ?_) | (refine AO.opG rfl rfl rfl (fun hp => OpW.force 37 rfl (by first | exact hp | simp_all) (O.callC rfl Try.func10 rfl rfl rfl (short_fn _) (by repeat (first | exact CoeL.nil | refine CoeL.cons Coe.rfl ?_ | refine CoeL.cons Coe.nil ?_ | refine CoeL.cons Coe.unfull ?_)))) ?_) | (refine AO.opG rfl rfl rfl (fun hp => OpW.force 37 rfl (by first | exact hp | simp_all) (O.callL rfl Try.func10 rfl rfl rfl (by repeat (first | exact List.Mem.head _ | refine List.Mem.tail _ ?_)) (short_fn _) (by repeat (first | exact LendL.nil | refine LendL.same ?_ | refine LendL.lend ?_)))) ?_) | (refine AO.op (O.call rfl Try.func10 rfl rfl rfl (short_fn _)) rfl rfl rfl ?_) | (refine AO.op (O.callC rfl Try.func10 rfl rfl rfl (short_fn _) (by repeat (first | exact CoeL.nil | refine CoeL.cons Coe.rfl ?_ | refine CoeL.cons Coe.nil ?_ | refine CoeL.cons Coe.unfull ?_))) rfl rfl rfl ?_) | (refine AO.op (O.callL rfl Try.func10 rfl rfl rfl (by repeat (first | exact List.Mem.head _ | refine List.Mem.tail _ ?_)) (short_fn _) (by repeat (first | exact LendL.nil | refine LendL.same ?_ | refine LendL.lend ?_))) rfl rfl rfl ?_) | (refine AO.no rfl rfl rfl ?_)
  first | (refine AO.opG rfl rfl rfl (fun hp => OpW.force 38 rfl (by first | exact hp | simp_all) (O.not rfl rfl (by first | assumption | rfl))) ?_) | (refine AO.op (O.not rfl rfl (by first | assumption | rfl)) rfl rfl rfl ?_) | (refine AO.no rfl rfl rfl ?_)
  first | (refine AO.op (O.pickOr rfl rfl rfl rfl (fun h => by first | exact congrArg (fun b => !b) h | simp_all)) rfl rfl rfl ?_) | (refine AO.op (O.pickT rfl rfl rfl) rfl rfl rfl ?_) | (refine AO.op (O.pickF rfl rfl rfl) rfl rfl rfl ?_)
  refine AO.nil ?_
  refine AQ.thenN ?_
  refine AW.split rfl (fun h0 => ?_) (fun h0 => ?_)
  · skip
    refine AW.seq ?_
    refine AW.region ?_
    first | (refine AO.op (O.call rfl Try.func11 rfl rfl rfl (awake_fn)) rfl rfl rfl ?_) | (refine AO.op (O.callC rfl Try.func11 rfl rfl rfl (awake_fn) (by repeat (first | exact CoeL.nil | refine CoeL.cons Coe.rfl ?_ | refine CoeL.cons Coe.nil ?_ | refine CoeL.cons Coe.unfull ?_))) rfl rfl rfl ?_) | (refine AO.op (O.callL rfl Try.func11 rfl rfl rfl (by repeat (first | exact List.Mem.head _ | refine List.Mem.tail _ ?_)) (awake_fn) (by repeat (first | exact LendL.nil | refine LendL.same ?_ | refine LendL.lend ?_))) rfl rfl rfl ?_)
    refine AO.op (O.assign rfl rfl) rfl rfl rfl ?_
    refine AO.nil ?_
    refine AQ.thenN ?_
    refine AW.ret ?_
    refine AQ.thenR ?_
    refine AQ.ret1 rfl rfl ⟨_, List.nil_sublist _, .nil⟩ (⟨rfl, rfl⟩)
  · skip
    obtain ⟨r, hr⟩ : ∃ r, r = (regOf l 0).1 := ⟨_, rfl⟩
    have hsm : Small r := hr ▸ regOf_small l (Nat.zero_le _)
    have hsm1 := hsm.1
    have hlim : lightB raw = true ∧ tok.length ≤ 50 ∧ key.length ≤ 600 := by
      simp only [Bool.or_eq_false_iff, Bool.not_eq_false', decide_eq_false_iff_not, decide_eq_true_eq] at h0
      exact ⟨h0.1.1, by omega, by omega⟩
    obtain ⟨hlt, htok, hkey⟩ := hlim
    have hraw := light_short hlt
    have q1 := Int.emod_nonneg now (show (3 : Int) ≠ 0 by omega)
    have q2 := Int.emod_lt_of_pos now (show (0 : Int) < 3 by omega)
    have hful := full_short (15 + now % 3).toNat (by omega)
    have hone := watchesA_one (regOf l 0).1
    have hrlen : (regOf l 0).1.length ≤ 16 := by rw [← hr]; exact hsm1
    refine AW.skip ?_
    refine AQ.thenN ?_
    refine AW.seq ?_
    refine AW.region ?_
    refine AO.op (O.move rfl rfl) rfl rfl rfl ?_
    first | (refine AO.opB (O.call rfl Try.func13 rfl rfl rfl (new_fn _)) rfl rfl rfl ?_) | (refine AO.opB (O.callC rfl Try.func13 rfl rfl rfl (new_fn _) (by repeat (first | exact CoeL.nil | refine CoeL.cons Coe.rfl ?_ | refine CoeL.cons Coe.nil ?_ | refine CoeL.cons Coe.unfull ?_))) rfl rfl rfl ?_)
    intro B
    first | (refine AO.callM1 (i := 0) rfl rfl Try.func12 rfl rfl rfl rfl rfl rfl (registry_fn _ l 0 hl (Nat.zero_le _)) (by first | (dsimp only [List.set, List.append, List.cons_append, List.nil_append, splice, AV.cells, List.map, List.map_cons, List.map_nil, List.take, List.drop, Nat.zero_add, Nat.add_zero, Nat.reduceAdd, Nat.reduceMul, Nat.zero_mul, Value.cells, List.toList_toArray, zerosA, List.replicate, List.flatten, List.append_nil]; rfl) | (dsimp only [List.set, List.append, List.cons_append, List.nil_append, splice, AV.cells, List.map, List.map_cons, List.map_nil, List.take, List.drop, Nat.zero_add, Nat.add_zero, Nat.reduceAdd, Nat.reduceMul, Nat.zero_mul, Value.cells, List.toList_toArray, zerosA, List.replicate, List.flatten, List.append_nil]; done) | rfl) ?_) | (refine AO.callM1 (i := 1) rfl rfl Try.func12 rfl rfl rfl rfl rfl rfl (registry_fn _ l 0 hl (Nat.zero_le _)) (by first | (dsimp only [List.set, List.append, List.cons_append, List.nil_append, splice, AV.cells, List.map, List.map_cons, List.map_nil, List.take, List.drop, Nat.zero_add, Nat.add_zero, Nat.reduceAdd, Nat.reduceMul, Nat.zero_mul, Value.cells, List.toList_toArray, zerosA, List.replicate, List.flatten, List.append_nil]; rfl) | (dsimp only [List.set, List.append, List.cons_append, List.nil_append, splice, AV.cells, List.map, List.map_cons, List.map_nil, List.take, List.drop, Nat.zero_add, Nat.add_zero, Nat.reduceAdd, Nat.reduceMul, Nat.zero_mul, Value.cells, List.toList_toArray, zerosA, List.replicate, List.flatten, List.append_nil]; done) | rfl) ?_) | (refine AO.callM1 (i := 2) rfl rfl Try.func12 rfl rfl rfl rfl rfl rfl (registry_fn _ l 0 hl (Nat.zero_le _)) (by first | (dsimp only [List.set, List.append, List.cons_append, List.nil_append, splice, AV.cells, List.map, List.map_cons, List.map_nil, List.take, List.drop, Nat.zero_add, Nat.add_zero, Nat.reduceAdd, Nat.reduceMul, Nat.zero_mul, Value.cells, List.toList_toArray, zerosA, List.replicate, List.flatten, List.append_nil]; rfl) | (dsimp only [List.set, List.append, List.cons_append, List.nil_append, splice, AV.cells, List.map, List.map_cons, List.map_nil, List.take, List.drop, Nat.zero_add, Nat.add_zero, Nat.reduceAdd, Nat.reduceMul, Nat.zero_mul, Value.cells, List.toList_toArray, zerosA, List.replicate, List.flatten, List.append_nil]; done) | rfl) ?_) | (refine AO.callM1 (i := 3) rfl rfl Try.func12 rfl rfl rfl rfl rfl rfl (registry_fn _ l 0 hl (Nat.zero_le _)) (by first | (dsimp only [List.set, List.append, List.cons_append, List.nil_append, splice, AV.cells, List.map, List.map_cons, List.map_nil, List.take, List.drop, Nat.zero_add, Nat.add_zero, Nat.reduceAdd, Nat.reduceMul, Nat.zero_mul, Value.cells, List.toList_toArray, zerosA, List.replicate, List.flatten, List.append_nil]; rfl) | (dsimp only [List.set, List.append, List.cons_append, List.nil_append, splice, AV.cells, List.map, List.map_cons, List.map_nil, List.take, List.drop, Nat.zero_add, Nat.add_zero, Nat.reduceAdd, Nat.reduceMul, Nat.zero_mul, Value.cells, List.toList_toArray, zerosA, List.replicate, List.flatten, List.append_nil]; done) | rfl) ?_) | (refine AO.callM1 (i := 4) rfl rfl Try.func12 rfl rfl rfl rfl rfl rfl (registry_fn _ l 0 hl (Nat.zero_le _)) (by first | (dsimp only [List.set, List.append, List.cons_append, List.nil_append, splice, AV.cells, List.map, List.map_cons, List.map_nil, List.take, List.drop, Nat.zero_add, Nat.add_zero, Nat.reduceAdd, Nat.reduceMul, Nat.zero_mul, Value.cells, List.toList_toArray, zerosA, List.replicate, List.flatten, List.append_nil]; rfl) | (dsimp only [List.set, List.append, List.cons_append, List.nil_append, splice, AV.cells, List.map, List.map_cons, List.map_nil, List.take, List.drop, Nat.zero_add, Nat.add_zero, Nat.reduceAdd, Nat.reduceMul, Nat.zero_mul, Value.cells, List.toList_toArray, zerosA, List.replicate, List.flatten, List.append_nil]; done) | rfl) ?_) | (refine AO.callM1 (i := 5) rfl rfl Try.func12 rfl rfl rfl rfl rfl rfl (registry_fn _ l 0 hl (Nat.zero_le _)) (by first | (dsimp only [List.set, List.append, List.cons_append, List.nil_append, splice, AV.cells, List.map, List.map_cons, List.map_nil, List.take, List.drop, Nat.zero_add, Nat.add_zero, Nat.reduceAdd, Nat.reduceMul, Nat.zero_mul, Value.cells, List.toList_toArray, zerosA, List.replicate, List.flatten, List.append_nil]; rfl) | (dsimp only [List.set, List.append, List.cons_append, List.nil_append, splice, AV.cells, List.map, List.map_cons, List.map_nil, List.take, List.drop, Nat.zero_add, Nat.add_zero, Nat.reduceAdd, Nat.reduceMul, Nat.zero_mul, Value.cells, List.toList_toArray, zerosA, List.replicate, List.flatten, List.append_nil]; done) | rfl) ?_)
    refine AO.op (O.assign rfl rfl) rfl rfl rfl ?_
    refine AO.nil ?_
    refine AQ.thenN ?_
    refine AW.seq ?_
    refine AW.seq ?_
    refine AW.region ?_
    refine AO.op (O.move rfl rfl) rfl rfl rfl ?_
    refine AO.op (O.move rfl rfl) rfl rfl rfl ?_
    refine AO.op (O.move rfl rfl) rfl rfl rfl ?_
    refine AO.opRow (O.appendNil rfl (by rfl) (by rfl) rfl rfl (by first | exact SrcA.nil TyD.ax | exact SrcA.ro TyD.ax (by first | rfl | simp) (Nat.le_of_ble_eq_true rfl) | exact SrcA.blk TyD.ax (by repeat (first | exact List.Mem.head _ | refine List.Mem.tail _ ?_)) (by first | (dsimp only [List.set, List.append, List.cons_append, List.nil_append, splice, AV.cells, List.map, List.map_cons, List.map_nil, List.take, List.drop, Nat.zero_add, Nat.add_zero, Nat.reduceAdd, Nat.reduceMul, Nat.zero_mul, Value.cells, List.toList_toArray, zerosA, List.replicate, List.flatten, List.append_nil]; rfl) | (dsimp only [List.set, List.append, List.cons_append, List.nil_append, splice, AV.cells, List.map, List.map_cons, List.map_nil, List.take, List.drop, Nat.zero_add, Nat.add_zero, Nat.reduceAdd, Nat.reduceMul, Nat.zero_mul, Value.cells, List.toList_toArray, zerosA, List.replicate, List.flatten, List.append_nil]; done) | rfl) (by first | rfl | simp) | exact SrcA.row TyD.ax (by repeat (first | exact List.Mem.head _ | refine List.Mem.tail _ ?_)) (by first | rfl | simp)) (by first | rfl | assumption | (simp [AV.cells, AV.one, *]; done) | simp [AV.cells, AV.one, Value.oneCell', *]) (by unfold maxLen; omega) (by omega)) rfl rfl rfl ?_
    intro V hV
    refine AO.op (O.move rfl rfl) rfl rfl rfl ?_
    first | (refine AO.append' (i := 0) rfl rfl rfl rfl (by rfl) (by rfl) rfl rfl rfl (by first | exact SrcA.nil TyD.ax | exact SrcA.ro TyD.ax (by first | rfl | simp) (Nat.le_of_ble_eq_true rfl) | exact SrcA.blk TyD.ax (by repeat (first | exact List.Mem.head _ | refine List.Mem.tail _ ?_)) (by first | (dsimp only [List.set, List.append, List.cons_append, List.nil_append, splice, AV.cells, List.map, List.map_cons, List.map_nil, List.take, List.drop, Nat.zero_add, Nat.add_zero, Nat.reduceAdd, Nat.reduceMul, Nat.zero_mul, Value.cells, List.toList_toArray, zerosA, List.replicate, List.flatten, List.append_nil]; rfl) | (dsimp only [List.set, List.append, List.cons_append, List.nil_append, splice, AV.cells, List.map, List.map_cons, List.map_nil, List.take, List.drop, Nat.zero_add, Nat.add_zero, Nat.reduceAdd, Nat.reduceMul, Nat.zero_mul, Value.cells, List.toList_toArray, zerosA, List.replicate, List.flatten, List.append_nil]; done) | rfl) (by first | rfl | simp) | exact SrcA.row TyD.ax (by repeat (first | exact List.Mem.head _ | refine List.Mem.tail _ ?_)) (by first | rfl | simp)) (by first | rfl | assumption | (simp [AV.cells, AV.one, *]; done) | simp [AV.cells, AV.one, Value.oneCell', *]) (by unfold maxLen; omega) (by omega) (by first | (dsimp only [List.set, List.append, List.cons_append, List.nil_append, splice, AV.cells, List.map, List.map_cons, List.map_nil, List.take, List.drop, Nat.zero_add, Nat.add_zero, Nat.reduceAdd, Nat.reduceMul, Nat.zero_mul, Value.cells, List.toList_toArray, zerosA, List.replicate, List.flatten, List.append_nil]; rfl) | (dsimp only [List.set, List.append, List.cons_append, List.nil_append, splice, AV.cells, List.map, List.map_cons, List.map_nil, List.take, List.drop, Nat.zero_add, Nat.add_zero, Nat.reduceAdd, Nat.reduceMul, Nat.zero_mul, Value.cells, List.toList_toArray, zerosA, List.replicate, List.flatten, List.append_nil]; done) | rfl) (fun _ => by first | (dsimp only [List.set]; rfl) | (dsimp only [List.set]; done) | rfl) ?_) | (refine AO.append' (i := 1) rfl rfl rfl rfl (by rfl) (by rfl) rfl rfl rfl (by first | exact SrcA.nil TyD.ax | exact SrcA.ro TyD.ax (by first | rfl | simp) (Nat.le_of_ble_eq_true rfl) | exact SrcA.blk TyD.ax (by repeat (first | exact List.Mem.head _ | refine List.Mem.tail _ ?_)) (by first | (dsimp only [List.set, List.append, List.cons_append, List.nil_append, splice, AV.cells, List.map, List.map_cons, List.map_nil, List.take, List.drop, Nat.zero_add, Nat.add_zero, Nat.reduceAdd, Nat.reduceMul, Nat.zero_mul, Value.cells, List.toList_toArray, zerosA, List.replicate, List.flatten, List.append_nil]; rfl) | (dsimp only [List.set, List.append, List.cons_append, List.nil_append, splice, AV.cells, List.map, List.map_cons, List.map_nil, List.take, List.drop, Nat.zero_add, Nat.add_zero, Nat.reduceAdd, Nat.reduceMul, Nat.zero_mul, Value.cells, List.toList_toArray, zerosA, List.replicate, List.flatten, List.append_nil]; done) | rfl) (by first | rfl | simp) | exact SrcA.row TyD.ax (by repeat (first | exact List.Mem.head _ | refine List.Mem.tail _ ?_)) (by first | rfl | simp)) (by first | rfl | assumption | (simp [AV.cells, AV.one, *]; done) | simp [AV.cells, AV.one, Value.oneCell', *]) (by unfold maxLen; omega) (by omega) (by first | (dsimp only [List.set, List.append, List.cons_append, List.nil_append, splice, AV.cells, List.map, List.map_cons, List.map_nil, List.take, List.drop, Nat.zero_add, Nat.add_zero, Nat.reduceAdd, Nat.reduceMul, Nat.zero_mul, Value.cells, List.toList_toArray, zerosA, List.replicate, List.flatten, List.append_nil]; rfl) | (dsimp only [List.set, List.append, List.cons_append, List.nil_append, splice, AV.cells, List.map, List.map_cons, List.map_nil, List.take, List.drop, Nat.zero_add, Nat.add_zero, Nat.reduceAdd, Nat.reduceMul, Nat.zero_mul, Value.cells, List.toList_toArray, zerosA, List.replicate, List.flatten, List.append_nil]; done) | rfl) (fun _ => by first | (dsimp only [List.set]; rfl) | (dsimp only [List.set]; done) | rfl) ?_) | (refine AO.append' (i := 2) rfl rfl rfl rfl (by rfl) (by rfl) rfl rfl rfl (by first | exact SrcA.nil TyD.ax | exact SrcA.ro TyD.ax (by first | rfl | simp) (Nat.le_of_ble_eq_true rfl) | exact SrcA.blk TyD.ax (by repeat (first | exact List.Mem.head _ | refine List.Mem.tail _ ?_)) (by first | (dsimp only [List.set, List.append, List.cons_append, List.nil_append, splice, AV.cells, List.map, List.map_cons, List.map_nil, List.take, List.drop, Nat.zero_add, Nat.add_zero, Nat.reduceAdd, Nat.reduceMul, Nat.zero_mul, Value.cells, List.toList_toArray, zerosA, List.replicate, List.flatten, List.append_nil]; rfl) | (dsimp only [List.set, List.append, List.cons_append, List.nil_append, splice, AV.cells, List.map, List.map_cons, List.map_nil, List.take, List.drop, Nat.zero_add, Nat.add_zero, Nat.reduceAdd, Nat.reduceMul, Nat.zero_mul, Value.cells, List.toList_toArray, zerosA, List.replicate, List.flatten, List.append_nil]; done) | rfl) (by first | rfl | simp) | exact SrcA.row TyD.ax (by repeat (first | exact List.Mem.head _ | refine List.Mem.tail _ ?_)) (by first | rfl | simp)) (by first | rfl | assumption | (simp [AV.cells, AV.one, *]; done) | simp [AV.cells, AV.one, Value.oneCell', *]) (by unfold maxLen; omega) (by omega) (by first | (dsimp only [List.set, List.append, List.cons_append, List.nil_append, splice, AV.cells, List.map, List.map_cons, List.map_nil, List.take, List.drop, Nat.zero_add, Nat.add_zero, Nat.reduceAdd, Nat.reduceMul, Nat.zero_mul, Value.cells, List.toList_toArray, zerosA, List.replicate, List.flatten, List.append_nil]; rfl) | (dsimp only [List.set, List.append, List.cons_append, List.nil_append, splice, AV.cells, List.map, List.map_cons, List.map_nil, List.take, List.drop, Nat.zero_add, Nat.add_zero, Nat.reduceAdd, Nat.reduceMul, Nat.zero_mul, Value.cells, List.toList_toArray, zerosA, List.replicate, List.flatten, List.append_nil]; done) | rfl) (fun _ => by first | (dsimp only [List.set]; rfl) | (dsimp only [List.set]; done) | rfl) ?_) | (refine AO.append' (i := 3) rfl rfl rfl rfl (by rfl) (by rfl) rfl rfl rfl (by first | exact SrcA.nil TyD.ax | exact SrcA.ro TyD.ax (by first | rfl | simp) (Nat.le_of_ble_eq_true rfl) | exact SrcA.blk TyD.ax (by repeat (first | exact List.Mem.head _ | refine List.Mem.tail _ ?_)) (by first | (dsimp only [List.set, List.append, List.cons_append, List.nil_append, splice, AV.cells, List.map, List.map_cons, List.map_nil, List.take, List.drop, Nat.zero_add, Nat.add_zero, Nat.reduceAdd, Nat.reduceMul, Nat.zero_mul, Value.cells, List.toList_toArray, zerosA, List.replicate, List.flatten, List.append_nil]; rfl) | (dsimp only [List.set, List.append, List.cons_append, List.nil_append, splice, AV.cells, List.map, List.map_cons, List.map_nil, List.take, List.drop, Nat.zero_add, Nat.add_zero, Nat.reduceAdd, Nat.reduceMul, Nat.zero_mul, Value.cells, List.toList_toArray, zerosA, List.replicate, List.flatten, List.append_nil]; done) | rfl) (by first | rfl | simp) | exact SrcA.row TyD.ax (by repeat (first | exact List.Mem.head _ | refine List.Mem.tail _ ?_)) (by first | rfl | simp)) (by first | rfl | assumption | (simp [AV.cells, AV.one, *]; done) | simp [AV.cells, AV.one, Value.oneCell', *]) (by unfold maxLen; omega) (by omega) (by first | (dsimp only [List.set, List.append, List.cons_append, List.nil_append, splice, AV.cells, List.map, List.map_cons, List.map_nil, List.take, List.drop, Nat.zero_add, Nat.add_zero, Nat.reduceAdd, Nat.reduceMul, Nat.zero_mul, Value.cells, List.toList_toArray, zerosA, List.replicate, List.flatten, List.append_nil]; rfl) | (dsimp only [List.set, List.append, List.cons_append, List.nil_append, splice, AV.cells, List.map, List.map_cons, List.map_nil, List.take, List.drop, Nat.zero_add, Nat.add_zero, Nat.reduceAdd, Nat.reduceMul, Nat.zero_mul, Value.cells, List.toList_toArray, zerosA, List.replicate, List.flatten, List.append_nil]; done) | rfl) (fun _ => by first | (dsimp only [List.set]; rfl) | (dsimp only [List.set]; done) | rfl) ?_) | (refine AO.append' (i := 4) rfl rfl rfl rfl (by rfl) (by rfl) rfl rfl rfl (by first | exact SrcA.nil TyD.ax | exact SrcA.ro TyD.ax (by first | rfl | simp) (Nat.le_of_ble_eq_true rfl) | exact SrcA.blk TyD.ax (by repeat (first | exact List.Mem.head _ | refine List.Mem.tail _ ?_)) (by first | (dsimp only [List.set, List.append, List.cons_append, List.nil_append, splice, AV.cells, List.map, List.map_cons, List.map_nil, List.take, List.drop, Nat.zero_add, Nat.add_zero, Nat.reduceAdd, Nat.reduceMul, Nat.zero_mul, Value.cells, List.toList_toArray, zerosA, List.replicate, List.flatten, List.append_nil]; rfl) | (dsimp only [List.set, List.append, List.cons_append, List.nil_append, splice, AV.cells, List.map, List.map_cons, List.map_nil, List.take, List.drop, Nat.zero_add, Nat.add_zero, Nat.reduceAdd, Nat.reduceMul, Nat.zero_mul, Value.cells, List.toList_toArray, zerosA, List.replicate, List.flatten, List.append_nil]; done) | rfl) (by first | rfl | simp) | exact SrcA.row TyD.ax (by repeat (first | exact List.Mem.head _ | refine List.Mem.tail _ ?_)) (by first | rfl | simp)) (by first | rfl | assumption | (simp [AV.cells, AV.one, *]; done) | simp [AV.cells, AV.one, Value.oneCell', *]) (by unfold maxLen; omega) (by omega) (by first | (dsimp only [List.set, List.append, List.cons_append, List.nil_append, splice, AV.cells, List.map, List.map_cons, List.map_nil, List.take, List.drop, Nat.zero_add, Nat.add_zero, Nat.reduceAdd, Nat.reduceMul, Nat.zero_mul, Value.cells, List.toList_toArray, zerosA, List.replicate, List.flatten, List.append_nil]; rfl) | (dsimp only [List.set, List.append, List.cons_append, List.nil_append, splice, AV.cells, List.map, List.map_cons, List.map_nil, List.take, List.drop, Nat.zero_add, Nat.add_zero, Nat.reduceAdd, Nat.reduceMul, Nat.zero_mul, Value.cells, List.toList_toArray, zerosA, List.replicate, List.flatten, List.append_nil]; done) | rfl) (fun _ => by first | (dsimp only [List.set]; rfl) | (dsimp only [List.set]; done) | rfl) ?_) | (refine AO.append' (i := 5) rfl rfl rfl rfl (by rfl) (by rfl) rfl rfl rfl (by first | exact SrcA.nil TyD.ax | exact SrcA.ro TyD.ax (by first | rfl | simp) (Nat.le_of_ble_eq_true rfl) | exact SrcA.blk TyD.ax (by repeat (first | exact List.Mem.head _ | refine List.Mem.tail _ ?_)) (by first | (dsimp only [List.set, List.append, List.cons_append, List.nil_append, splice, AV.cells, List.map, List.map_cons, List.map_nil, List.take, List.drop, Nat.zero_add, Nat.add_zero, Nat.reduceAdd, Nat.reduceMul, Nat.zero_mul, Value.cells, List.toList_toArray, zerosA, List.replicate, List.flatten, List.append_nil]; rfl) | (dsimp only [List.set, List.append, List.cons_append, List.nil_append, splice, AV.cells, List.map, List.map_cons, List.map_nil, List.take, List.drop, Nat.zero_add, Nat.add_zero, Nat.reduceAdd, Nat.reduceMul, Nat.zero_mul, Value.cells, List.toList_toArray, zerosA, List.replicate, List.flatten, List.append_nil]; done) | rfl) (by first | rfl | simp) | exact SrcA.row TyD.ax (by repeat (first | exact List.Mem.head _ | refine List.Mem.tail _ ?_)) (by first | rfl | simp)) (by first | rfl | assumption | (simp [AV.cells, AV.one, *]; done) | simp [AV.cells, AV.one, Value.oneCell', *]) (by unfold maxLen; omega) (by omega) (by first | (dsimp only [List.set, List.append, List.cons_append, List.nil_append, splice, AV.cells, List.map, List.map_cons, List.map_nil, List.take, List.drop, Nat.zero_add, Nat.add_zero, Nat.reduceAdd, Nat.reduceMul, Nat.zero_mul, Value.cells, List.toList_toArray, zerosA, List.replicate, List.flatten, List.append_nil]; rfl) | (dsimp only [List.set, List.append, List.cons_append, List.nil_append, splice, AV.cells, List.map, List.map_cons, List.map_nil, List.take, List.drop, Nat.zero_add, Nat.add_zero, Nat.reduceAdd, Nat.reduceMul, Nat.zero_mul, Value.cells, List.toList_toArray, zerosA, List.replicate, List.flatten, List.append_nil]; done) | rfl) (fun _ => by first | (dsimp only [List.set]; rfl) | (dsimp only [List.set]; done) | rfl) ?_)
    intro V hV
    refine AO.g ?_
    first | (refine G.freezeRow 0 rfl [50] (by repeat (first | exact frNil | refine frCons rfl ?_)) ?_) | (refine G.freezeRow 1 rfl [50] (by repeat (first | exact frNil | refine frCons rfl ?_)) ?_) | (refine G.freezeRow 2 rfl [50] (by repeat (first | exact frNil | refine frCons rfl ?_)) ?_) | (refine G.freezeRow 3 rfl [50] (by repeat (first | exact frNil | refine frCons rfl ?_)) ?_) | (refine G.freezeRow 4 rfl [50] (by repeat (first | exact frNil | refine frCons rfl ?_)) ?_) | (refine G.freezeRow 5 rfl [50] (by repeat (first | exact frNil | refine frCons rfl ?_)) ?_)
    refine AO.u ?_
    dsimp only [List.map, List.eraseIdx, List.cons_append, List.nil_append]
    refine AO.op (O.move rfl rfl) rfl rfl rfl ?_
    first | (refine AO.op (O.call rfl Try.func14 rfl rfl rfl (full_fn _)) rfl rfl rfl ?_) | (refine AO.op (O.callC rfl Try.func14 rfl rfl rfl (full_fn _) (by repeat (first | exact CoeL.nil | refine CoeL.cons Coe.rfl ?_ | refine CoeL.cons Coe.nil ?_ | refine CoeL.cons Coe.unfull ?_))) rfl rfl rfl ?_) | (refine AO.op (O.callL rfl Try.func14 rfl rfl rfl (by repeat (first | exact List.Mem.head _ | refine List.Mem.tail _ ?_)) (full_fn _) (by repeat (first | exact LendL.nil | refine LendL.same ?_ | refine LendL.lend ?_))) rfl rfl rfl ?_)
    refine AO.opB (O.buildSlice rfl rfl rfl (by rfl) (by rfl) (by rfl) (by rfl)) rfl rfl rfl ?_
    intro B
    refine AO.g ?_
    first | (refine G.freezeSl 0 53 rfl rfl ⟨Nat.le_refl _, by unfold maxLen; omega⟩ ?_) | (refine G.freezeSl 1 53 rfl rfl ⟨Nat.le_refl _, by unfold maxLen; omega⟩ ?_) | (refine G.freezeSl 2 53 rfl rfl ⟨Nat.le_refl _, by unfold maxLen; omega⟩ ?_) | (refine G.freezeSl 3 53 rfl rfl ⟨Nat.le_refl _, by unfold maxLen; omega⟩ ?_) | (refine G.freezeSl 4 53 rfl rfl ⟨Nat.le_refl _, by unfold maxLen; omega⟩ ?_) | (refine G.freezeSl 5 53 rfl rfl ⟨Nat.le_refl _, by unfold maxLen; omega⟩ ?_)
    refine G.unfull 53 rfl ?_
    refine AO.u ?_
    dsimp only [List.eraseIdx]
    first | (refine AO.op (O.lenR rfl rfl) rfl rfl rfl ?_) | (refine AO.op (O.lenV rfl rfl) rfl rfl rfl ?_) | (refine AO.op (O.lenRow rfl rfl (by repeat (first | exact List.Mem.head _ | refine List.Mem.tail _ ?_))) rfl rfl rfl ?_) | (refine AO.op (O.lenS rfl rfl) rfl rfl rfl ?_)
    refine AO.op (O.move rfl rfl) rfl rfl rfl ?_
    refine AO.nil ?_
    refine AQ.thenN ?_
    refine AW.block ?_
    rw [← hr]
    have happ : AV.ro false (r.length + r.length) (watchesA r ++ watchesA r) = roW (r ++ r) := by rw [roW, watchesA_app, List.length_append]
    refine AW.g ?_
    refine G.re 53 (.ro false 4 [roW raw, roW r, .ro false (r.length + r.length) (watchesA r ++ watchesA r), roW (fullW (15 + now % 3).toNat)]) rfl ?_
    refine AW.u ?_
    rw [happ]
    refine AW.loop (fun n E H => ∃ k : Nat, k ≤ 4 ∧ n = 4 - k ∧ E = [(2, .val (.int .i64 peer)), (3, roB tok), (4, roB key), (5, .val (.int .i64 now)), (53, .ro false 4 [roW raw, roW r, roW (r ++ r), roW (fullW (15 + now % 3).toNat)]), (54, .val (.int .i64 4)), (55, .val (.int .i64 (k : Int)))] ∧ H = []) (4) (⟨0, by omega, rfl, rfl, rfl⟩) (by repeat (first | exact envNil | refine envCons rfl ?_)) ⟨_, by repeat (first | exact List.Sublist.slnil | refine List.Sublist.cons_cons _ ?_ | refine List.Sublist.cons _ ?_), List.Perm.refl _⟩ ?_
    rintro n E H ⟨k, hk, rfl, rfl, rfl⟩
    refine AW.seq ?_
    refine AW.region ?_
    refine AO.op (O.lss rfl rfl rfl (by first | exact bTrue (by omega) | exact bFalse (by omega) | assumption | rfl)) rfl rfl rfl ?_
    refine AO.nil ?_
    refine AQ.thenN ?_
    refine AW.seq ?_
    refine AW.split rfl (fun hk4 => ?_) (fun hk4 => ?_)
    · skip
      have hk4 : k < 4 := by have := of_decide_eq_true hk4; omega
      obtain ⟨x, hx, hsh⟩ : ∃ x : List Watch, ([roW raw, roW r, roW (r ++ r), roW (fullW (15 + now % 3).toNat)] : List AV)[Int.toNat (k : Int) * 1]? = some (roW x) ∧ Short x := by
        rcases (show k = 0 ∨ k = 1 ∨ k = 2 ∨ k = 3 by omega) with rfl | rfl | rfl | rfl
        · exact ⟨_, rfl, hraw⟩
        · exact ⟨_, rfl, hsm.short⟩
        · exact ⟨_, rfl, app_short hsm hsm⟩
        · exact ⟨_, rfl, hful⟩
      refine AW.skip ?_
      refine AQ.thenN ?_
      refine AW.seq ?_
      refine AW.block ?_
      refine AW.seq ?_
      refine AW.region ?_
      first | (refine AO.op (O.idxR rfl rfl rfl ⟨by omega, by omega⟩) rfl rfl rfl ?_) | (refine AO.op (O.idxV rfl rfl rfl ⟨by omega, by omega⟩) rfl rfl rfl ?_)
      first | (refine AO.op (O.loadR rfl rfl (by first | rfl | assumption)) rfl rfl rfl ?_) | (refine AO.op (O.load rfl rfl (by repeat (first | exact List.Mem.head _ | refine List.Mem.tail _ ?_)) (by first | rfl | assumption)) rfl rfl rfl ?_)
      refine AO.op (O.assign rfl rfl) rfl rfl rfl ?_
      refine AO.nil ?_
      refine AQ.thenN ?_
      refine AW.seq ?_
      refine AW.seq ?_
      refine AW.region ?_
      refine AO.op (O.move rfl rfl) rfl rfl rfl ?_
      first | (refine AO.op (O.call rfl Try.func15 rfl rfl rfl (valid_fn _)) rfl rfl rfl ?_) | (refine AO.op (O.callC rfl Try.func15 rfl rfl rfl (valid_fn _) (by repeat (first | exact CoeL.nil | refine CoeL.cons Coe.rfl ?_ | refine CoeL.cons Coe.nil ?_ | refine CoeL.cons Coe.unfull ?_))) rfl rfl rfl ?_) | (refine AO.op (O.callL rfl Try.func15 rfl rfl rfl (by repeat (first | exact List.Mem.head _ | refine List.Mem.tail _ ?_)) (valid_fn _) (by repeat (first | exact LendL.nil | refine LendL.same ?_ | refine LendL.lend ?_))) rfl rfl rfl ?_)
      refine AO.op (O.move rfl rfl) rfl rfl rfl ?_
      first | (refine AO.op (O.call rfl Try.func16 rfl rfl rfl (rvalid_fn _)) rfl rfl rfl ?_) | (refine AO.op (O.callC rfl Try.func16 rfl rfl rfl (rvalid_fn _) (by repeat (first | exact CoeL.nil | refine CoeL.cons Coe.rfl ?_ | refine CoeL.cons Coe.nil ?_ | refine CoeL.cons Coe.unfull ?_))) rfl rfl rfl ?_) | (refine AO.op (O.callL rfl Try.func16 rfl rfl rfl (by repeat (first | exact List.Mem.head _ | refine List.Mem.tail _ ?_)) (rvalid_fn _) (by repeat (first | exact LendL.nil | refine LendL.same ?_ | refine LendL.lend ?_))) rfl rfl rfl ?_)
      refine AO.op (O.neqB rfl rfl rfl (by first | assumption | rfl)) rfl rfl rfl ?_
      refine AO.nil ?_
      refine AQ.thenN ?_
      refine AW.split rfl (fun hne => ?_) (fun hne => ?_)
      · skip
        simp at hne
      · skip
        refine AW.skip ?_
        refine AQ.thenN ?_
        refine AW.seq ?_
        refine AW.region ?_
        refine AO.op (O.move rfl rfl) rfl rfl rfl ?_
        refine AO.op (O.move rfl rfl) rfl rfl rfl ?_
        first | (refine AO.op (O.call rfl Try.func17 rfl rfl rfl (mod_fn _ _ (by omega) (by omega))) rfl rfl rfl ?_) | (refine AO.op (O.callC rfl Try.func17 rfl rfl rfl (mod_fn _ _ (by omega) (by omega)) (by repeat (first | exact CoeL.nil | refine CoeL.cons Coe.rfl ?_ | refine CoeL.cons Coe.nil ?_ | refine CoeL.cons Coe.unfull ?_))) rfl rfl rfl ?_) | (refine AO.op (O.callL rfl Try.func17 rfl rfl rfl (by repeat (first | exact List.Mem.head _ | refine List.Mem.tail _ ?_)) (mod_fn _ _ (by omega) (by omega)) (by repeat (first | exact LendL.nil | refine LendL.same ?_ | refine LendL.lend ?_))) rfl rfl rfl ?_)
        refine AO.opB (O.buildSlice rfl rfl rfl (by rfl) (by rfl) (by rfl) (by rfl)) rfl rfl rfl ?_
        intro B
        refine AO.g ?_
        first | (refine G.freezeSl 0 67 rfl rfl ⟨Nat.le_refl _, by unfold maxLen; omega⟩ ?_) | (refine G.freezeSl 1 67 rfl rfl ⟨Nat.le_refl _, by unfold maxLen; omega⟩ ?_) | (refine G.freezeSl 2 67 rfl rfl ⟨Nat.le_refl _, by unfold maxLen; omega⟩ ?_) | (refine G.freezeSl 3 67 rfl rfl ⟨Nat.le_refl _, by unfold maxLen; omega⟩ ?_) | (refine G.freezeSl 4 67 rfl rfl ⟨Nat.le_refl _, by unfold maxLen; omega⟩ ?_) | (refine G.freezeSl 5 67 rfl rfl ⟨Nat.le_refl _, by unfold maxLen; omega⟩ ?_)
        refine G.unfull 67 rfl ?_
        refine AO.u ?_
        dsimp only [List.eraseIdx]
        first | (refine AO.op (O.lenR rfl rfl) rfl rfl rfl ?_) | (refine AO.op (O.lenV rfl rfl) rfl rfl rfl ?_) | (refine AO.op (O.lenRow rfl rfl (by repeat (first | exact List.Mem.head _ | refine List.Mem.tail _ ?_))) rfl rfl rfl ?_) | (refine AO.op (O.lenS rfl rfl) rfl rfl rfl ?_)
        refine AO.op (O.move rfl rfl) rfl rfl rfl ?_
        refine AO.nil ?_
        refine AQ.thenN ?_
        refine AW.block ?_
        refine AW.g ?_
        refine G.re 67 (.ro false 3 [.val (.int .i64 peer), .val (.int .i64 (peer % 5)), .val (.int .i64 99)]) rfl ?_
        refine AW.u ?_
        refine AW.loop (fun n E H => ∃ i : Nat, i ≤ 3 ∧ n = 3 - i ∧ E = [(2, .val (.int .i64 peer)), (3, roB tok), (4, roB key), (5, .val (.int .i64 now)), (53, .ro false 4 [roW raw, roW r, roW (r ++ r), roW (fullW (15 + now % 3).toNat)]), (54, .val (.int .i64 4)), (55, .val (.int .i64 (k : Int))), (15, roW x), (67, .ro false 3 [.val (.int .i64 peer), .val (.int .i64 (peer % 5)), .val (.int .i64 99)]), (68, .val (.int .i64 3)), (69, .val (.int .i64 (i : Int)))] ∧ H = []) (3) (⟨0, by omega, rfl, rfl, rfl⟩) (by repeat (first | exact envNil | refine envCons rfl ?_)) ⟨_, by repeat (first | exact List.Sublist.slnil | refine List.Sublist.cons_cons _ ?_ | refine List.Sublist.cons _ ?_), List.Perm.refl _⟩ ?_
        rintro n E H ⟨i, hi, rfl, rfl, rfl⟩
        refine AW.seq ?_
        refine AW.region ?_
        refine AO.op (O.lss rfl rfl rfl (by first | exact bTrue (by omega) | exact bFalse (by omega) | assumption | rfl)) rfl rfl rfl ?_
        refine AO.nil ?_
        refine AQ.thenN ?_
        refine AW.seq ?_
        refine AW.split rfl (fun hi3 => ?_) (fun hi3 => ?_)
        · skip
          have hi3 : i < 3 := by have := of_decide_eq_true hi3; omega
          obtain ⟨p, hp⟩ : ∃ p : Int, ([.val (.int .i64 peer), .val (.int .i64 (peer % 5)), .val (.int .i64 99)] : List AV)[Int.toNat (i : Int) * 1]? = some (.val (.int .i64 p)) := by
            rcases (show i = 0 ∨ i = 1 ∨ i = 2 by omega) with rfl | rfl | rfl <;> exact ⟨_, rfl⟩
          refine AW.skip ?_
          refine AQ.thenN ?_
          refine AW.seq ?_
          refine AW.block ?_
          refine AW.seq ?_
          refine AW.region ?_
          first | (refine AO.op (O.idxR rfl rfl rfl ⟨by omega, by omega⟩) rfl rfl rfl ?_) | (refine AO.op (O.idxV rfl rfl rfl ⟨by omega, by omega⟩) rfl rfl rfl ?_)
          first | (refine AO.op (O.loadR rfl rfl (by first | rfl | assumption)) rfl rfl rfl ?_) | (refine AO.op (O.load rfl rfl (by repeat (first | exact List.Mem.head _ | refine List.Mem.tail _ ?_)) (by first | rfl | assumption)) rfl rfl rfl ?_)
          refine AO.op (O.assign rfl rfl) rfl rfl rfl ?_
          refine AO.nil ?_
          refine AQ.thenN ?_
          refine AW.seq ?_
          refine AW.region ?_
          refine AO.op (O.move rfl rfl) rfl rfl rfl ?_
          refine AO.op (O.move rfl rfl) rfl rfl rfl ?_
          first | (refine AO.op (O.call rfl Try.func17 rfl rfl rfl (mod_fn _ _ (by omega) (by omega))) rfl rfl rfl ?_) | (refine AO.op (O.callC rfl Try.func17 rfl rfl rfl (mod_fn _ _ (by omega) (by omega)) (by repeat (first | exact CoeL.nil | refine CoeL.cons Coe.rfl ?_ | refine CoeL.cons Coe.nil ?_ | refine CoeL.cons Coe.unfull ?_))) rfl rfl rfl ?_) | (refine AO.op (O.callL rfl Try.func17 rfl rfl rfl (by repeat (first | exact List.Mem.head _ | refine List.Mem.tail _ ?_)) (mod_fn _ _ (by omega) (by omega)) (by repeat (first | exact LendL.nil | refine LendL.same ?_ | refine LendL.lend ?_))) rfl rfl rfl ?_)
          refine AO.op (O.conv rfl rfl wU8any) rfl rfl rfl ?_
          refine AO.opB (O.buildSlice rfl rfl rfl (by rfl) (by rfl) (by rfl) (by rfl)) rfl rfl rfl ?_
          intro B
          refine AO.g ?_
          first | (refine G.freezeSl 0 77 rfl rfl ⟨Nat.le_refl _, by unfold maxLen; omega⟩ ?_) | (refine G.freezeSl 1 77 rfl rfl ⟨Nat.le_refl _, by unfold maxLen; omega⟩ ?_) | (refine G.freezeSl 2 77 rfl rfl ⟨Nat.le_refl _, by unfold maxLen; omega⟩ ?_) | (refine G.freezeSl 3 77 rfl rfl ⟨Nat.le_refl _, by unfold maxLen; omega⟩ ?_) | (refine G.freezeSl 4 77 rfl rfl ⟨Nat.le_refl _, by unfold maxLen; omega⟩ ?_) | (refine G.freezeSl 5 77 rfl rfl ⟨Nat.le_refl _, by unfold maxLen; omega⟩ ?_)
          refine G.unfull 77 rfl ?_
          refine AO.u ?_
          dsimp only [List.eraseIdx]
          refine AO.opB (O.buildSlice rfl rfl rfl (by rfl) (by rfl) (by rfl) (by rfl)) rfl rfl rfl ?_
          intro B
          refine AO.g ?_
          first | (refine G.freezeSl 0 78 rfl rfl ⟨Nat.le_refl _, by unfold maxLen; omega⟩ ?_) | (refine G.freezeSl 1 78 rfl rfl ⟨Nat.le_refl _, by unfold maxLen; omega⟩ ?_) | (refine G.freezeSl 2 78 rfl rfl ⟨Nat.le_refl _, by unfold maxLen; omega⟩ ?_) | (refine G.freezeSl 3 78 rfl rfl ⟨Nat.le_refl _, by unfold maxLen; omega⟩ ?_) | (refine G.freezeSl 4 78 rfl rfl ⟨Nat.le_refl _, by unfold maxLen; omega⟩ ?_) | (refine G.freezeSl 5 78 rfl rfl ⟨Nat.le_refl _, by unfold maxLen; omega⟩ ?_)
          refine G.unfull 78 rfl ?_
          refine AO.u ?_
          dsimp only [List.eraseIdx]
          first | (refine AO.op (O.lenR rfl rfl) rfl rfl rfl ?_) | (refine AO.op (O.lenV rfl rfl) rfl rfl rfl ?_) | (refine AO.op (O.lenRow rfl rfl (by repeat (first | exact List.Mem.head _ | refine List.Mem.tail _ ?_))) rfl rfl rfl ?_) | (refine AO.op (O.lenS rfl rfl) rfl rfl rfl ?_)
          refine AO.op (O.move rfl rfl) rfl rfl rfl ?_
          refine AO.nil ?_
          refine AQ.thenN ?_
          refine AW.block ?_
          refine AW.loop (fun n E H => ∃ j : Nat, j ≤ 2 ∧ n = 2 - j ∧ E = [(2, .val (.int .i64 peer)), (3, roB tok), (4, roB key), (5, .val (.int .i64 now)), (53, .ro false 4 [roW raw, roW r, roW (r ++ r), roW (fullW (15 + now % 3).toNat)]), (54, .val (.int .i64 4)), (55, .val (.int .i64 (k : Int))), (15, roW x), (67, .ro false 3 [.val (.int .i64 peer), .val (.int .i64 (peer % 5)), .val (.int .i64 99)]), (68, .val (.int .i64 3)), (69, .val (.int .i64 (i : Int))), (17, .val (.int .i64 p)), (78, .ro false 2 [roB tok, roB [u8 (now % 5)]]), (79, .val (.int .i64 2)), (80, .val (.int .i64 (j : Int)))] ∧ H = []) (2) (⟨0, by omega, rfl, rfl, rfl⟩) (by repeat (first | exact envNil | refine envCons rfl ?_)) ⟨_, by repeat (first | exact List.Sublist.slnil | refine List.Sublist.cons_cons _ ?_ | refine List.Sublist.cons _ ?_), List.Perm.refl _⟩ ?_
          rintro n E H ⟨j, hj, rfl, rfl, rfl⟩
          refine AW.seq ?_
          refine AW.region ?_
          refine AO.op (O.lss rfl rfl rfl (by first | exact bTrue (by omega) | exact bFalse (by omega) | assumption | rfl)) rfl rfl rfl ?_
          refine AO.nil ?_
          refine AQ.thenN ?_
          refine AW.seq ?_
          refine AW.split rfl (fun hj2 => ?_) (fun hj2 => ?_)
          · skip
            have hj2 : j < 2 := by have := of_decide_eq_true hj2; omega
            obtain ⟨t, ht', ht⟩ : ∃ t : List UInt8, ([roB tok, roB [u8 (now % 5)]] : List AV)[Int.toNat (j : Int) * 1]? = some (roB t) ∧ t.length ≤ 4294967296 := by
              rcases (show j = 0 ∨ j = 1 by omega) with rfl | rfl
              · exact ⟨_, rfl, by omega⟩
              · exact ⟨_, rfl, by simp⟩
            refine AW.skip ?_
            refine AQ.thenN ?_
            refine AW.seq ?_
            refine AW.block ?_
            refine AW.seq ?_
            refine AW.region ?_
            first | (refine AO.op (O.idxR rfl rfl rfl ⟨by omega, by omega⟩) rfl rfl rfl ?_) | (refine AO.op (O.idxV rfl rfl rfl ⟨by omega, by omega⟩) rfl rfl rfl ?_)
            first | (refine AO.op (O.loadR rfl rfl (by first | rfl | assumption)) rfl rfl rfl ?_) | (refine AO.op (O.load rfl rfl (by repeat (first | exact List.Mem.head _ | refine List.Mem.tail _ ?_)) (by first | rfl | assumption)) rfl rfl rfl ?_)
            refine AO.op (O.assign rfl rfl) rfl rfl rfl ?_
            refine AO.nil ?_
            refine AQ.thenN ?_
            refine AW.seq ?_
            refine AW.region ?_
            refine AO.op (O.move rfl rfl) rfl rfl rfl ?_
            refine AO.op (O.move rfl rfl) rfl rfl rfl ?_
            refine AO.op (O.move rfl rfl) rfl rfl rfl ?_
            refine AO.op (O.move rfl rfl) rfl rfl rfl ?_
            refine AO.op (O.move rfl rfl) rfl rfl rfl ?_
            first | (refine AO.op (O.call rfl Try.func18 rfl rfl rfl (register_fn _ hsh _ _ _ _ ht (by omega))) rfl rfl rfl ?_) | (refine AO.op (O.call rfl Try.func18 rfl rfl rfl (register_fn _ hsh _ _ [u8 (peer % 4)] _ ht (by simp))) rfl rfl rfl ?_) | (refine AO.op (O.callC rfl Try.func18 rfl rfl rfl (register_fn _ hsh _ _ _ _ ht (by omega)) (by repeat (first | exact CoeL.nil | refine CoeL.cons Coe.rfl ?_ | refine CoeL.cons Coe.nil ?_ | refine CoeL.cons Coe.unfull ?_))) rfl rfl rfl ?_) | (refine AO.op (O.callC rfl Try.func18 rfl rfl rfl (register_fn _ hsh _ _ [u8 (peer % 4)] _ ht (by simp)) (by repeat (first | exact CoeL.nil | refine CoeL.cons Coe.rfl ?_ | refine CoeL.cons Coe.nil ?_ | refine CoeL.cons Coe.unfull ?_))) rfl rfl rfl ?_)
            refine AO.op (O.move rfl rfl) rfl rfl rfl ?_
            first | (refine AO.op (O.extract rfl rfl rfl) rfl rfl rfl ?_) | (refine AO.op (O.extractV rfl rfl rfl) rfl rfl rfl ?_)
            first | (refine AO.op (O.extract rfl rfl rfl) rfl rfl rfl ?_) | (refine AO.op (O.extractV rfl rfl rfl) rfl rfl rfl ?_)
            refine AO.op (O.assign rfl rfl) rfl rfl rfl ?_
            refine AO.op (O.assign rfl rfl) rfl rfl rfl ?_
            refine AO.nil ?_
            refine AQ.thenN ?_
            refine AW.seq ?_
            refine AW.region ?_
            refine AO.op (O.move rfl rfl) rfl rfl rfl ?_
            refine AO.op (O.move rfl rfl) rfl rfl rfl ?_
            refine AO.op (O.move rfl rfl) rfl rfl rfl ?_
            refine AO.op (O.move rfl rfl) rfl rfl rfl ?_
            refine AO.op (O.move rfl rfl) rfl rfl rfl ?_
            first | (refine AO.op (O.call rfl Try.func19 rfl rfl rfl (rregister_fn _ hsh _ _ _ _ ht (by omega))) rfl rfl rfl ?_) | (refine AO.op (O.call rfl Try.func19 rfl rfl rfl (rregister_fn _ hsh _ _ [u8 (peer % 4)] _ ht (by simp))) rfl rfl rfl ?_) | (refine AO.op (O.callC rfl Try.func19 rfl rfl rfl (rregister_fn _ hsh _ _ _ _ ht (by omega)) (by repeat (first | exact CoeL.nil | refine CoeL.cons Coe.rfl ?_ | refine CoeL.cons Coe.nil ?_ | refine CoeL.cons Coe.unfull ?_))) rfl rfl rfl ?_) | (refine AO.op (O.callC rfl Try.func19 rfl rfl rfl (rregister_fn _ hsh _ _ [u8 (peer % 4)] _ ht (by simp)) (by repeat (first | exact CoeL.nil | refine CoeL.cons Coe.rfl ?_ | refine CoeL.cons Coe.nil ?_ | refine CoeL.cons Coe.unfull ?_))) rfl rfl rfl ?_)
            refine AO.op (O.move rfl rfl) rfl rfl rfl ?_
            first | (refine AO.op (O.extract rfl rfl rfl) rfl rfl rfl ?_) | (refine AO.op (O.extractV rfl rfl rfl) rfl rfl rfl ?_)
            first | (refine AO.op (O.extract rfl rfl rfl) rfl rfl rfl ?_) | (refine AO.op (O.extractV rfl rfl rfl) rfl rfl rfl ?_)
            refine AO.op (O.assign rfl rfl) rfl rfl rfl ?_
            refine AO.op (O.assign rfl rfl) rfl rfl rfl ?_
            refine AO.nil ?_
            refine AQ.thenN ?_
            refine AW.seq ?_
            refine AW.region ?_
            refine AO.op (O.move rfl rfl) rfl rfl rfl ?_
            refine AO.op (O.move rfl rfl) rfl rfl rfl ?_
            refine AO.op (O.move rfl rfl) rfl rfl rfl ?_
            refine AO.op (O.move rfl rfl) rfl rfl rfl ?_
            first | (refine AO.op (O.call rfl Try.func17 rfl rfl rfl (mod_fn _ _ (by omega) (by omega))) rfl rfl rfl ?_) | (refine AO.op (O.callC rfl Try.func17 rfl rfl rfl (mod_fn _ _ (by omega) (by omega)) (by repeat (first | exact CoeL.nil | refine CoeL.cons Coe.rfl ?_ | refine CoeL.cons Coe.nil ?_ | refine CoeL.cons Coe.unfull ?_))) rfl rfl rfl ?_) | (refine AO.op (O.callL rfl Try.func17 rfl rfl rfl (by repeat (first | exact List.Mem.head _ | refine List.Mem.tail _ ?_)) (mod_fn _ _ (by omega) (by omega)) (by repeat (first | exact LendL.nil | refine LendL.same ?_ | refine LendL.lend ?_))) rfl rfl rfl ?_)
            refine AO.op (O.conv rfl rfl wU8any) rfl rfl rfl ?_
            refine AO.opB (O.buildSlice rfl rfl rfl (by rfl) (by rfl) (by rfl) (by rfl)) rfl rfl rfl ?_
            intro B
            refine AO.g ?_
            first | (refine G.freezeSl 0 109 rfl rfl ⟨Nat.le_refl _, by unfold maxLen; omega⟩ ?_) | (refine G.freezeSl 1 109 rfl rfl ⟨Nat.le_refl _, by unfold maxLen; omega⟩ ?_) | (refine G.freezeSl 2 109 rfl rfl ⟨Nat.le_refl _, by unfold maxLen; omega⟩ ?_) | (refine G.freezeSl 3 109 rfl rfl ⟨Nat.le_refl _, by unfold maxLen; omega⟩ ?_) | (refine G.freezeSl 4 109 rfl rfl ⟨Nat.le_refl _, by unfold maxLen; omega⟩ ?_) | (refine G.freezeSl 5 109 rfl rfl ⟨Nat.le_refl _, by unfold maxLen; omega⟩ ?_)
            refine G.unfull 109 rfl ?_
            refine AO.u ?_
            dsimp only [List.eraseIdx]
            refine AO.op (O.move rfl rfl) rfl rfl rfl ?_
            first | (refine AO.op (O.call rfl Try.func17 rfl rfl rfl (mod_fn _ _ (by omega) (by omega))) rfl rfl rfl ?_) | (refine AO.op (O.callC rfl Try.func17 rfl rfl rfl (mod_fn _ _ (by omega) (by omega)) (by repeat (first | exact CoeL.nil | refine CoeL.cons Coe.rfl ?_ | refine CoeL.cons Coe.nil ?_ | refine CoeL.cons Coe.unfull ?_))) rfl rfl rfl ?_) | (refine AO.op (O.callL rfl Try.func17 rfl rfl rfl (by repeat (first | exact List.Mem.head _ | refine List.Mem.tail _ ?_)) (mod_fn _ _ (by omega) (by omega)) (by repeat (first | exact LendL.nil | refine LendL.same ?_ | refine LendL.lend ?_))) rfl rfl rfl ?_)
            first | (refine AO.op (O.call rfl Try.func18 rfl rfl rfl (register_fn _ hsh _ _ _ _ ht (by omega))) rfl rfl rfl ?_) | (refine AO.op (O.call rfl Try.func18 rfl rfl rfl (register_fn _ hsh _ _ [u8 (peer % 4)] _ ht (by simp))) rfl rfl rfl ?_) | (refine AO.op (O.callC rfl Try.func18 rfl rfl rfl (register_fn _ hsh _ _ _ _ ht (by omega)) (by repeat (first | exact CoeL.nil | refine CoeL.cons Coe.rfl ?_ | refine CoeL.cons Coe.nil ?_ | refine CoeL.cons Coe.unfull ?_))) rfl rfl rfl ?_) | (refine AO.op (O.callC rfl Try.func18 rfl rfl rfl (register_fn _ hsh _ _ [u8 (peer % 4)] _ ht (by simp)) (by repeat (first | exact CoeL.nil | refine CoeL.cons Coe.rfl ?_ | refine CoeL.cons Coe.nil ?_ | refine CoeL.cons Coe.unfull ?_))) rfl rfl rfl ?_)
            refine AO.op (O.move rfl rfl) rfl rfl rfl ?_
            first | (refine AO.op (O.extract rfl rfl rfl) rfl rfl rfl ?_) | (refine AO.op (O.extractV rfl rfl rfl) rfl rfl rfl ?_)
            first | (refine AO.op (O.extract rfl rfl rfl) rfl rfl rfl ?_) | (refine AO.op (O.extractV rfl rfl rfl) rfl rfl rfl ?_)
            refine AO.op (O.assign rfl rfl) rfl rfl rfl ?_
            refine AO.op (O.assign rfl rfl) rfl rfl rfl ?_
            refine AO.nil ?_
            refine AQ.thenN ?_
            refine AW.seq ?_
            refine AW.region ?_
            refine AO.op (O.move rfl rfl) rfl rfl rfl ?_
            refine AO.op (O.move rfl rfl) rfl rfl rfl ?_
            refine AO.op (O.move rfl rfl) rfl rfl rfl ?_
            refine AO.op (O.move rfl rfl) rfl rfl rfl ?_
            first | (refine AO.op (O.call rfl Try.func17 rfl rfl rfl (mod_fn _ _ (by omega) (by omega))) rfl rfl rfl ?_) | (refine AO.op (O.callC rfl Try.func17 rfl rfl rfl (mod_fn _ _ (by omega) (by omega)) (by repeat (first | exact CoeL.nil | refine CoeL.cons Coe.rfl ?_ | refine CoeL.cons Coe.nil ?_ | refine CoeL.cons Coe.unfull ?_))) rfl rfl rfl ?_) | (refine AO.op (O.callL rfl Try.func17 rfl rfl rfl (by repeat (first | exact List.Mem.head _ | refine List.Mem.tail _ ?_)) (mod_fn _ _ (by omega) (by omega)) (by repeat (first | exact LendL.nil | refine LendL.same ?_ | refine LendL.lend ?_))) rfl rfl rfl ?_)
            refine AO.op (O.conv rfl rfl wU8any) rfl rfl rfl ?_
            refine AO.opB (O.buildSlice rfl rfl rfl (by rfl) (by rfl) (by rfl) (by rfl)) rfl rfl rfl ?_
            intro B
            refine AO.g ?_
            first | (refine G.freezeSl 0 122 rfl rfl ⟨Nat.le_refl _, by unfold maxLen; omega⟩ ?_) | (refine G.freezeSl 1 122 rfl rfl ⟨Nat.le_refl _, by unfold maxLen; omega⟩ ?_) | (refine G.freezeSl 2 122 rfl rfl ⟨Nat.le_refl _, by unfold maxLen; omega⟩ ?_) | (refine G.freezeSl 3 122 rfl rfl ⟨Nat.le_refl _, by unfold maxLen; omega⟩ ?_) | (refine G.freezeSl 4 122 rfl rfl ⟨Nat.le_refl _, by unfold maxLen; omega⟩ ?_) | (refine G.freezeSl 5 122 rfl rfl ⟨Nat.le_refl _, by unfold maxLen; omega⟩ ?_)
            refine G.unfull 122 rfl ?_
            refine AO.u ?_
            dsimp only [List.eraseIdx]
            refine AO.op (O.move rfl rfl) rfl rfl rfl ?_
            first | (refine AO.op (O.call rfl Try.func17 rfl rfl rfl (mod_fn _ _ (by omega) (by omega))) rfl rfl rfl ?_) | (refine AO.op (O.callC rfl Try.func17 rfl rfl rfl (mod_fn _ _ (by omega) (by omega)) (by repeat (first | exact CoeL.nil | refine CoeL.cons Coe.rfl ?_ | refine CoeL.cons Coe.nil ?_ | refine CoeL.cons Coe.unfull ?_))) rfl rfl rfl ?_) | (refine AO.op (O.callL rfl Try.func17 rfl rfl rfl (by repeat (first | exact List.Mem.head _ | refine List.Mem.tail _ ?_)) (mod_fn _ _ (by omega) (by omega)) (by repeat (first | exact LendL.nil | refine LendL.same ?_ | refine LendL.lend ?_))) rfl rfl rfl ?_)
            first | (refine AO.op (O.call rfl Try.func19 rfl rfl rfl (rregister_fn _ hsh _ _ _ _ ht (by omega))) rfl rfl rfl ?_) | (refine AO.op (O.call rfl Try.func19 rfl rfl rfl (rregister_fn _ hsh _ _ [u8 (peer % 4)] _ ht (by simp))) rfl rfl rfl ?_) | (refine AO.op (O.callC rfl Try.func19 rfl rfl rfl (rregister_fn _ hsh _ _ _ _ ht (by omega)) (by repeat (first | exact CoeL.nil | refine CoeL.cons Coe.rfl ?_ | refine CoeL.cons Coe.nil ?_ | refine CoeL.cons Coe.unfull ?_))) rfl rfl rfl ?_) | (refine AO.op (O.callC rfl Try.func19 rfl rfl rfl (rregister_fn _ hsh _ _ [u8 (peer % 4)] _ ht (by simp)) (by repeat (first | exact CoeL.nil | refine CoeL.cons Coe.rfl ?_ | refine CoeL.cons Coe.nil ?_ | refine CoeL.cons Coe.unfull ?_))) rfl rfl rfl ?_)
            refine AO.op (O.move rfl rfl) rfl rfl rfl ?_
            first | (refine AO.op (O.extract rfl rfl rfl) rfl rfl rfl ?_) | (refine AO.op (O.extractV rfl rfl rfl) rfl rfl rfl ?_)
            first | (refine AO.op (O.extract rfl rfl rfl) rfl rfl rfl ?_) | (refine AO.op (O.extractV rfl rfl rfl) rfl rfl rfl ?_)
            refine AO.op (O.assign rfl rfl) rfl rfl rfl ?_
            refine AO.op (O.assign rfl rfl) rfl rfl rfl ?_
            refine AO.nil ?_
            refine AQ.thenN ?_
            refine AW.seq ?_
            refine AW.region ?_
            refine AO.op (O.move rfl rfl) rfl rfl rfl ?_
            refine AO.op (O.move rfl rfl) rfl rfl rfl ?_
            first | (refine AO.op (O.call rfl Try.func20 rfl rfl rfl (same_fn _ (regW_len _ _ _ _ _))) rfl rfl rfl ?_) | (refine AO.op (O.callC rfl Try.func20 rfl rfl rfl (same_fn _ (regW_len _ _ _ _ _)) (by repeat (first | exact CoeL.nil | refine CoeL.cons Coe.rfl ?_ | refine CoeL.cons Coe.nil ?_ | refine CoeL.cons Coe.unfull ?_))) rfl rfl rfl ?_) | (refine AO.op (O.callL rfl Try.func20 rfl rfl rfl (by repeat (first | exact List.Mem.head _ | refine List.Mem.tail _ ?_)) (same_fn _ (regW_len _ _ _ _ _)) (by repeat (first | exact LendL.nil | refine LendL.same ?_ | refine LendL.lend ?_))) rfl rfl rfl ?_)
            refine AO.op (O.not rfl rfl (by first | assumption | rfl)) rfl rfl rfl ?_
            refine AO.op (O.move rfl rfl) rfl rfl rfl ?_
            first | (refine AO.opG rfl rfl rfl (fun hp => O.move rfl rfl) ?_) | (refine AO.op (O.move rfl rfl) rfl rfl rfl ?_) | (refine AO.no rfl rfl rfl ?_)
            first | (refine AO.opG rfl rfl rfl (fun hp => O.move rfl rfl) ?_) | (refine AO.op (O.move rfl rfl) rfl rfl rfl ?_) | (refine AO.no rfl rfl rfl ?_)
            first | (refine AO.opG rfl rfl rfl (fun hp => OpW.force 133 rfl (by first | exact hp | simp_all) (OpW.force 134 rfl (by first | exact hp | simp_all) (O.neq rfl rfl rfl (by first | exact bne_iff_ne.2 (by omega) | exact bne_eq_false_iff_eq.2 (by omega) | assumption | rfl)))) ?_) | (refine AO.op (O.neq rfl rfl rfl (by first | exact bne_iff_ne.2 (by omega) | exact bne_eq_false_iff_eq.2 (by omega) | assumption | rfl)) rfl rfl rfl ?_) | (refine AO.no rfl rfl rfl ?_)
            first | (refine AO.op (O.pickOr rfl rfl rfl rfl (fun h => by first | exact congrArg (fun b => !b) h | simp_all)) rfl rfl rfl ?_) | (refine AO.op (O.pickT rfl rfl rfl) rfl rfl rfl ?_) | (refine AO.op (O.pickF rfl rfl rfl) rfl rfl rfl ?_)
            refine AO.op (O.move rfl rfl) rfl rfl rfl ?_
            first | (refine AO.opG rfl rfl rfl (fun hp => O.move rfl rfl) ?_) | (refine AO.op (O.move rfl rfl) rfl rfl rfl ?_) | (refine AO.no rfl rfl rfl ?_)
            first | (refine AO.opG rfl rfl rfl (fun hp => O.move rfl rfl) ?_) | (refine AO.op (O.move rfl rfl) rfl rfl rfl ?_) | (refine AO.no rfl rfl rfl ?_)
            first | (refine AO.opG rfl rfl rfl (fun hp => OpW.force 138 rfl (by first | exact hp | simp_all) (OpW.force 139 rfl (by first | exact hp | simp_all) (O.call rfl Try.func20 rfl rfl rfl (same_fn _ (regW_len _ _ _ _ _))))) ?_) | (refine AO.opG rfl rfl rfl (fun hp => OpW.force 138 rfl (by first | exact hp | simp_all) (OpW.force 139 rfl (by first | exact hp | simp_all) (O.callC rfl Try.func20 rfl rfl rfl (same_fn _ (regW_len _ _ _ _ _)) (by repeat (first | exact CoeL.nil | refine CoeL.cons Coe.rfl ?_ | refine CoeL.cons Coe.nil ?_ | refine CoeL.cons Coe.unfull ?_))))) ?_) | (refine AO.opG rfl rfl rfl (fun hp => OpW.force 138 rfl (by first | exact hp | simp_all) (OpW.force 139 rfl (by first | exact hp | simp_all) (O.callL rfl Try.func20 rfl rfl rfl (by repeat (first | exact List.Mem.head _ | refine List.Mem.tail _ ?_)) (same_fn _ (regW_len _ _ _ _ _)) (by repeat (first | exact LendL.nil | refine LendL.same ?_ | refine LendL.lend ?_))))) ?_) | (refine AO.op (O.call rfl Try.func20 rfl rfl rfl (same_fn _ (regW_len _ _ _ _ _))) rfl rfl rfl ?_) | (refine AO.op (O.callC rfl Try.func20 rfl rfl rfl (same_fn _ (regW_len _ _ _ _ _)) (by repeat (first | exact CoeL.nil | refine CoeL.cons Coe.rfl ?_ | refine CoeL.cons Coe.nil ?_ | refine CoeL.cons Coe.unfull ?_))) rfl rfl rfl ?_) | (refine AO.op (O.callL rfl Try.func20 rfl rfl rfl (by repeat (first | exact List.Mem.head _ | refine List.Mem.tail _ ?_)) (same_fn _ (regW_len _ _ _ _ _)) (by repeat (first | exact LendL.nil | refine LendL.same ?_ | refine LendL.lend ?_))) rfl rfl rfl ?_) | (refine AO.no rfl rfl rfl ?_)
            first | (refine AO.opG rfl rfl rfl (fun hp => OpW.force 140 rfl (by first | exact hp | simp_all) (O.not rfl rfl (by first | assumption | rfl))) ?_) | (refine AO.op (O.not rfl rfl (by first | assumption | rfl)) rfl rfl rfl ?_) | (refine AO.no rfl rfl rfl ?_)
            first | (refine AO.op (O.pickOr rfl rfl rfl rfl (fun h => by first | exact congrArg (fun b => !b) h | simp_all)) rfl rfl rfl ?_) | (refine AO.op (O.pickT rfl rfl rfl) rfl rfl rfl ?_) | (refine AO.op (O.pickF rfl rfl rfl) rfl rfl rfl ?_)
            refine AO.op (O.move rfl rfl) rfl rfl rfl ?_
            first | (refine AO.opG rfl rfl rfl (fun hp => O.move rfl rfl) ?_) | (refine AO.op (O.move rfl rfl) rfl rfl rfl ?_) | (refine AO.no rfl rfl rfl ?_)
            first | (refine AO.opG rfl rfl rfl (fun hp => O.move rfl rfl) ?_) | (refine AO.op (O.move rfl rfl) rfl rfl rfl ?_) | (refine AO.no rfl rfl rfl ?_)
            first | (refine AO.opG rfl rfl rfl (fun hp => OpW.force 144 rfl (by first | exact hp | simp_all) (OpW.force 145 rfl (by first | exact hp | simp_all) (O.neq rfl rfl rfl (by first | exact bne_iff_ne.2 (by omega) | exact bne_eq_false_iff_eq.2 (by omega) | assumption | rfl)))) ?_) | (refine AO.op (O.neq rfl rfl rfl (by first | exact bne_iff_ne.2 (by omega) | exact bne_eq_false_iff_eq.2 (by omega) | assumption | rfl)) rfl rfl rfl ?_) | (refine AO.no rfl rfl rfl ?_)
            first | (refine AO.op (O.pickOr rfl rfl rfl rfl (fun h => by first | exact congrArg (fun b => !b) h | simp_all)) rfl rfl rfl ?_) | (refine AO.op (O.pickT rfl rfl rfl) rfl rfl rfl ?_) | (refine AO.op (O.pickF rfl rfl rfl) rfl rfl rfl ?_)
            refine AO.nil ?_
            refine AQ.thenN ?_
            refine AW.condF rfl ?_
            refine AW.skip ?_
            refine AQ.blockN ?_
            refine AQ.thenN ?_
            refine AW.region ?_
            refine AO.op (O.add rfl rfl rfl (by first | exact wI64 (by omega) | rfl)) rfl rfl rfl ?_
            refine AO.op (O.move rfl rfl) rfl rfl rfl ?_
            refine AO.nil ?_
            refine AQ.loopN _ _ _ (by omega) (⟨j + 1, by omega, rfl, rfl, rfl⟩) (by repeat (first | exact envNil | refine envCons rfl ?_)) ⟨_, by repeat (first | exact List.Sublist.slnil | refine List.Sublist.cons_cons _ ?_ | refine List.Sublist.cons _ ?_), List.Perm.refl _⟩
          · skip
            refine AW.exit ?_
            refine AQ.thenX ?_
            refine AQ.loopX ?_
            refine AQ.blockX rfl ?_
            refine AQ.blockN ?_
            refine AQ.thenN ?_
            refine AW.region ?_
            refine AO.op (O.add rfl rfl rfl (by first | exact wI64 (by omega) | rfl)) rfl rfl rfl ?_
            refine AO.op (O.move rfl rfl) rfl rfl rfl ?_
            refine AO.nil ?_
            refine AQ.loopN _ _ _ (by omega) (⟨i + 1, by omega, rfl, rfl, rfl⟩) (by repeat (first | exact envNil | refine envCons rfl ?_)) ⟨_, by repeat (first | exact List.Sublist.slnil | refine List.Sublist.cons_cons _ ?_ | refine List.Sublist.cons _ ?_), List.Perm.refl _⟩
        · skip
          refine AW.exit ?_
          refine AQ.thenX ?_
          refine AQ.loopX ?_
          refine AQ.blockX rfl ?_
          refine AQ.blockN ?_
          refine AQ.thenN ?_
          refine AW.region ?_
          refine AO.op (O.add rfl rfl rfl (by first | exact wI64 (by omega) | rfl)) rfl rfl rfl ?_
          refine AO.op (O.move rfl rfl) rfl rfl rfl ?_
          refine AO.nil ?_
          refine AQ.loopN _ _ _ (by omega) (⟨k + 1, by omega, rfl, rfl, rfl⟩) (by repeat (first | exact envNil | refine envCons rfl ?_)) ⟨_, by repeat (first | exact List.Sublist.slnil | refine List.Sublist.cons_cons _ ?_ | refine List.Sublist.cons _ ?_), List.Perm.refl _⟩
    · skip
      refine AW.exit ?_
      refine AQ.thenX ?_
      refine AQ.loopX ?_
      refine AQ.blockX rfl ?_
      refine AQ.thenN ?_
      refine AW.seq ?_
      refine AW.region ?_
      first | (refine AO.op (O.call rfl Try.func11 rfl rfl rfl (awake_fn)) rfl rfl rfl ?_) | (refine AO.op (O.callC rfl Try.func11 rfl rfl rfl (awake_fn) (by repeat (first | exact CoeL.nil | refine CoeL.cons Coe.rfl ?_ | refine CoeL.cons Coe.nil ?_ | refine CoeL.cons Coe.unfull ?_))) rfl rfl rfl ?_) | (refine AO.op (O.callL rfl Try.func11 rfl rfl rfl (by repeat (first | exact List.Mem.head _ | refine List.Mem.tail _ ?_)) (awake_fn) (by repeat (first | exact LendL.nil | refine LendL.same ?_ | refine LendL.lend ?_))) rfl rfl rfl ?_)
      refine AO.op (O.assign rfl rfl) rfl rfl rfl ?_
      refine AO.nil ?_
      refine AQ.thenN ?_
      refine AW.ret ?_
      refine AQ.ret1 rfl rfl ⟨_, List.nil_sublist _, .nil⟩ (⟨rfl, rfl⟩)
end Go.Proofs.Ytlcoanbdaephiaa.Ob
