/-
  AesBits, the statement: for every input the law returns true, and its arguments read as before. No condition.
-/
import Derived.ChangeSame
import Derived.JoinedOf
import Derived.JoinedAt
import Derived.RowKit3
import Derived.ReadAgain
import Derived.Deep.Slices
import Derived.ChangeSlices
import Derived.Test.YtochjihddnkhcaaZ2
namespace Go.Proofs.Ytochjihddnkhcaa.By
open Go.RowKit L A
set_option linter.unusedVariables false
set_option linter.unusedSimpArgs false
attribute [local irreducible] AW AQ AO
set_option maxRecDepth 20000 in
set_option maxHeartbeats 4000000 in
theorem block_fn (w f : Nat → UInt8) : Sp Try.prog 41 [.rp (cipA w) 0, .agg (arB 16 f)] [] (Is (.agg (arB 16 (enc w f)))) := by
  refine Sp.enter Try.func41 rfl _ Try.ntmps41 rfl (fun w0 R0 => ?_)
  refine AW.seq ?_
  refine AW.region ?_
  refine AO.opB (O.box rfl rfl rfl rfl rfl) rfl rfl rfl ?_
  intro B1
  refine AO.opB (O.alloc rfl (by first | (dsimp only [List.set, List.append, List.cons_append, List.nil_append, splice, ofConst, AV.cells, List.map, List.map_cons, List.map_nil, List.take, List.drop, Nat.zero_add, Nat.add_zero, Nat.reduceAdd, Nat.reduceMul, Nat.zero_mul, Value.cells, List.toList_toArray, zerosA, List.replicate, List.flatten, List.append_nil]; rfl) | (dsimp only [List.set, List.append, List.cons_append, List.nil_append, splice, ofConst, AV.cells, List.map, List.map_cons, List.map_nil, List.take, List.drop, Nat.zero_add, Nat.add_zero, Nat.reduceAdd, Nat.reduceMul, Nat.zero_mul, Value.cells, List.toList_toArray, zerosA, List.replicate, List.flatten, List.append_nil]; done) | rfl) (by rfl)) rfl rfl rfl ?_
  intro B2
  refine AO.nil ?_
  refine AQ.thenN ?_
  refine AW.seq ?_
  refine AW.region ?_
  first | (refine AO.op (O.loadRK rfl rfl (by first | exact List.take_of_length_le (Nat.le_of_eq (arB_len _ _)) | rfl) (by first | exact arB_len _ _ | rfl)) rfl rfl rfl ?_) | (refine AO.op (O.loadK rfl rfl (by repeat (first | exact List.Mem.head _ | refine List.Mem.tail _ ?_)) (by first | exact List.take_of_length_le (Nat.le_of_eq (arB_len _ _)) | rfl) (by first | exact arB_len _ _ | rfl)) rfl rfl rfl ?_) | (refine AO.op (O.loadK rfl rfl (by repeat (first | exact List.Mem.head _ | refine List.Mem.tail _ ?_)) (by first | (dsimp only [List.set, List.append, List.cons_append, List.nil_append, splice, ofConst, AV.cells, List.map, List.map_cons, List.map_nil, List.take, List.drop, Nat.zero_add, Nat.add_zero, Nat.reduceAdd, Nat.reduceMul, Nat.zero_mul, Value.cells, List.toList_toArray, zerosA, List.replicate, List.flatten, List.append_nil]; rfl) | (dsimp only [List.set, List.append, List.cons_append, List.nil_append, splice, ofConst, AV.cells, List.map, List.map_cons, List.map_nil, List.take, List.drop, Nat.zero_add, Nat.add_zero, Nat.reduceAdd, Nat.reduceMul, Nat.zero_mul, Value.cells, List.toList_toArray, zerosA, List.replicate, List.flatten, List.append_nil]; done) | rfl) (by first | exact arB_len _ _ | rfl)) rfl rfl rfl ?_)
  refine AO.opB (O.alloc rfl (by first | (dsimp only [List.set, List.append, List.cons_append, List.nil_append, splice, ofConst, AV.cells, List.map, List.map_cons, List.map_nil, List.take, List.drop, Nat.zero_add, Nat.add_zero, Nat.reduceAdd, Nat.reduceMul, Nat.zero_mul, Value.cells, List.toList_toArray, zerosA, List.replicate, List.flatten, List.append_nil]; rfl) | (dsimp only [List.set, List.append, List.cons_append, List.nil_append, splice, ofConst, AV.cells, List.map, List.map_cons, List.map_nil, List.take, List.drop, Nat.zero_add, Nat.add_zero, Nat.reduceAdd, Nat.reduceMul, Nat.zero_mul, Value.cells, List.toList_toArray, zerosA, List.replicate, List.flatten, List.append_nil]; done) | rfl) (by rfl)) rfl rfl rfl ?_
  intro B3
  first | (refine AO.store (i := 0) rfl rfl rfl rfl rfl rfl (by first | exact arB_one _ _ | rfl | assumption | (simp [AV.cells, AV.one, *]; done) | (simp [AV.cells, AV.one, roB, roI, roO, show ∀ k z, (Value.int k z).oneCell' = true from fun _ _ => rfl, show ∀ k, (Value.bool k).oneCell' = true from fun _ => rfl, *]; done) | simp [AV.cells, AV.one, Value.oneCell', *]) (by first | exact arB_len _ _ | rfl) (by first | exact Nat.ble_eq_true_of_le (Nat.le_of_eq (arB_len _ _).symm) | rfl) (by first | exact splice_arB rfl | exact splice_arB (arB_len _ _) | rfl) (by first | (dsimp only [List.set, List.append, List.cons_append, List.nil_append, splice, ofConst, AV.cells, List.map, List.map_cons, List.map_nil, List.take, List.drop, Nat.zero_add, Nat.add_zero, Nat.reduceAdd, Nat.reduceMul, Nat.zero_mul, Value.cells, List.toList_toArray, zerosA, List.replicate, List.flatten, List.append_nil]; rfl) | (dsimp only [List.set, List.append, List.cons_append, List.nil_append, splice, ofConst, AV.cells, List.map, List.map_cons, List.map_nil, List.take, List.drop, Nat.zero_add, Nat.add_zero, Nat.reduceAdd, Nat.reduceMul, Nat.zero_mul, Value.cells, List.toList_toArray, zerosA, List.replicate, List.flatten, List.append_nil]; done) | rfl) ?_) | (refine AO.store (i := 1) rfl rfl rfl rfl rfl rfl (by first | exact arB_one _ _ | rfl | assumption | (simp [AV.cells, AV.one, *]; done) | (simp [AV.cells, AV.one, roB, roI, roO, show ∀ k z, (Value.int k z).oneCell' = true from fun _ _ => rfl, show ∀ k, (Value.bool k).oneCell' = true from fun _ => rfl, *]; done) | simp [AV.cells, AV.one, Value.oneCell', *]) (by first | exact arB_len _ _ | rfl) (by first | exact Nat.ble_eq_true_of_le (Nat.le_of_eq (arB_len _ _).symm) | rfl) (by first | exact splice_arB rfl | exact splice_arB (arB_len _ _) | rfl) (by first | (dsimp only [List.set, List.append, List.cons_append, List.nil_append, splice, ofConst, AV.cells, List.map, List.map_cons, List.map_nil, List.take, List.drop, Nat.zero_add, Nat.add_zero, Nat.reduceAdd, Nat.reduceMul, Nat.zero_mul, Value.cells, List.toList_toArray, zerosA, List.replicate, List.flatten, List.append_nil]; rfl) | (dsimp only [List.set, List.append, List.cons_append, List.nil_append, splice, ofConst, AV.cells, List.map, List.map_cons, List.map_nil, List.take, List.drop, Nat.zero_add, Nat.add_zero, Nat.reduceAdd, Nat.reduceMul, Nat.zero_mul, Value.cells, List.toList_toArray, zerosA, List.replicate, List.flatten, List.append_nil]; done) | rfl) ?_) | (refine AO.store (i := 2) rfl rfl rfl rfl rfl rfl (by first | exact arB_one _ _ | rfl | assumption | (simp [AV.cells, AV.one, *]; done) | (simp [AV.cells, AV.one, roB, roI, roO, show ∀ k z, (Value.int k z).oneCell' = true from fun _ _ => rfl, show ∀ k, (Value.bool k).oneCell' = true from fun _ => rfl, *]; done) | simp [AV.cells, AV.one, Value.oneCell', *]) (by first | exact arB_len _ _ | rfl) (by first | exact Nat.ble_eq_true_of_le (Nat.le_of_eq (arB_len _ _).symm) | rfl) (by first | exact splice_arB rfl | exact splice_arB (arB_len _ _) | rfl) (by first | (dsimp only [List.set, List.append, List.cons_append, List.nil_append, splice, ofConst, AV.cells, List.map, List.map_cons, List.map_nil, List.take, List.drop, Nat.zero_add, Nat.add_zero, Nat.reduceAdd, Nat.reduceMul, Nat.zero_mul, Value.cells, List.toList_toArray, zerosA, List.replicate, List.flatten, List.append_nil]; rfl) | (dsimp only [List.set, List.append, List.cons_append, List.nil_append, splice, ofConst, AV.cells, List.map, List.map_cons, List.map_nil, List.take, List.drop, Nat.zero_add, Nat.add_zero, Nat.reduceAdd, Nat.reduceMul, Nat.zero_mul, Value.cells, List.toList_toArray, zerosA, List.replicate, List.flatten, List.append_nil]; done) | rfl) ?_) | (refine AO.store (i := 3) rfl rfl rfl rfl rfl rfl (by first | exact arB_one _ _ | rfl | assumption | (simp [AV.cells, AV.one, *]; done) | (simp [AV.cells, AV.one, roB, roI, roO, show ∀ k z, (Value.int k z).oneCell' = true from fun _ _ => rfl, show ∀ k, (Value.bool k).oneCell' = true from fun _ => rfl, *]; done) | simp [AV.cells, AV.one, Value.oneCell', *]) (by first | exact arB_len _ _ | rfl) (by first | exact Nat.ble_eq_true_of_le (Nat.le_of_eq (arB_len _ _).symm) | rfl) (by first | exact splice_arB rfl | exact splice_arB (arB_len _ _) | rfl) (by first | (dsimp only [List.set, List.append, List.cons_append, List.nil_append, splice, ofConst, AV.cells, List.map, List.map_cons, List.map_nil, List.take, List.drop, Nat.zero_add, Nat.add_zero, Nat.reduceAdd, Nat.reduceMul, Nat.zero_mul, Value.cells, List.toList_toArray, zerosA, List.replicate, List.flatten, List.append_nil]; rfl) | (dsimp only [List.set, List.append, List.cons_append, List.nil_append, splice, ofConst, AV.cells, List.map, List.map_cons, List.map_nil, List.take, List.drop, Nat.zero_add, Nat.add_zero, Nat.reduceAdd, Nat.reduceMul, Nat.zero_mul, Value.cells, List.toList_toArray, zerosA, List.replicate, List.flatten, List.append_nil]; done) | rfl) ?_) | (refine AO.store (i := 4) rfl rfl rfl rfl rfl rfl (by first | exact arB_one _ _ | rfl | assumption | (simp [AV.cells, AV.one, *]; done) | (simp [AV.cells, AV.one, roB, roI, roO, show ∀ k z, (Value.int k z).oneCell' = true from fun _ _ => rfl, show ∀ k, (Value.bool k).oneCell' = true from fun _ => rfl, *]; done) | simp [AV.cells, AV.one, Value.oneCell', *]) (by first | exact arB_len _ _ | rfl) (by first | exact Nat.ble_eq_true_of_le (Nat.le_of_eq (arB_len _ _).symm) | rfl) (by first | exact splice_arB rfl | exact splice_arB (arB_len _ _) | rfl) (by first | (dsimp only [List.set, List.append, List.cons_append, List.nil_append, splice, ofConst, AV.cells, List.map, List.map_cons, List.map_nil, List.take, List.drop, Nat.zero_add, Nat.add_zero, Nat.reduceAdd, Nat.reduceMul, Nat.zero_mul, Value.cells, List.toList_toArray, zerosA, List.replicate, List.flatten, List.append_nil]; rfl) | (dsimp only [List.set, List.append, List.cons_append, List.nil_append, splice, ofConst, AV.cells, List.map, List.map_cons, List.map_nil, List.take, List.drop, Nat.zero_add, Nat.add_zero, Nat.reduceAdd, Nat.reduceMul, Nat.zero_mul, Value.cells, List.toList_toArray, zerosA, List.replicate, List.flatten, List.append_nil]; done) | rfl) ?_) | (refine AO.store (i := 5) rfl rfl rfl rfl rfl rfl (by first | exact arB_one _ _ | rfl | assumption | (simp [AV.cells, AV.one, *]; done) | (simp [AV.cells, AV.one, roB, roI, roO, show ∀ k z, (Value.int k z).oneCell' = true from fun _ _ => rfl, show ∀ k, (Value.bool k).oneCell' = true from fun _ => rfl, *]; done) | simp [AV.cells, AV.one, Value.oneCell', *]) (by first | exact arB_len _ _ | rfl) (by first | exact Nat.ble_eq_true_of_le (Nat.le_of_eq (arB_len _ _).symm) | rfl) (by first | exact splice_arB rfl | exact splice_arB (arB_len _ _) | rfl) (by first | (dsimp only [List.set, List.append, List.cons_append, List.nil_append, splice, ofConst, AV.cells, List.map, List.map_cons, List.map_nil, List.take, List.drop, Nat.zero_add, Nat.add_zero, Nat.reduceAdd, Nat.reduceMul, Nat.zero_mul, Value.cells, List.toList_toArray, zerosA, List.replicate, List.flatten, List.append_nil]; rfl) | (dsimp only [List.set, List.append, List.cons_append, List.nil_append, splice, ofConst, AV.cells, List.map, List.map_cons, List.map_nil, List.take, List.drop, Nat.zero_add, Nat.add_zero, Nat.reduceAdd, Nat.reduceMul, Nat.zero_mul, Value.cells, List.toList_toArray, zerosA, List.replicate, List.flatten, List.append_nil]; done) | rfl) ?_) | (refine AO.store (i := 6) rfl rfl rfl rfl rfl rfl (by first | exact arB_one _ _ | rfl | assumption | (simp [AV.cells, AV.one, *]; done) | (simp [AV.cells, AV.one, roB, roI, roO, show ∀ k z, (Value.int k z).oneCell' = true from fun _ _ => rfl, show ∀ k, (Value.bool k).oneCell' = true from fun _ => rfl, *]; done) | simp [AV.cells, AV.one, Value.oneCell', *]) (by first | exact arB_len _ _ | rfl) (by first | exact Nat.ble_eq_true_of_le (Nat.le_of_eq (arB_len _ _).symm) | rfl) (by first | exact splice_arB rfl | exact splice_arB (arB_len _ _) | rfl) (by first | (dsimp only [List.set, List.append, List.cons_append, List.nil_append, splice, ofConst, AV.cells, List.map, List.map_cons, List.map_nil, List.take, List.drop, Nat.zero_add, Nat.add_zero, Nat.reduceAdd, Nat.reduceMul, Nat.zero_mul, Value.cells, List.toList_toArray, zerosA, List.replicate, List.flatten, List.append_nil]; rfl) | (dsimp only [List.set, List.append, List.cons_append, List.nil_append, splice, ofConst, AV.cells, List.map, List.map_cons, List.map_nil, List.take, List.drop, Nat.zero_add, Nat.add_zero, Nat.reduceAdd, Nat.reduceMul, Nat.zero_mul, Value.cells, List.toList_toArray, zerosA, List.replicate, List.flatten, List.append_nil]; done) | rfl) ?_) | (refine AO.store (i := 7) rfl rfl rfl rfl rfl rfl (by first | exact arB_one _ _ | rfl | assumption | (simp [AV.cells, AV.one, *]; done) | (simp [AV.cells, AV.one, roB, roI, roO, show ∀ k z, (Value.int k z).oneCell' = true from fun _ _ => rfl, show ∀ k, (Value.bool k).oneCell' = true from fun _ => rfl, *]; done) | simp [AV.cells, AV.one, Value.oneCell', *]) (by first | exact arB_len _ _ | rfl) (by first | exact Nat.ble_eq_true_of_le (Nat.le_of_eq (arB_len _ _).symm) | rfl) (by first | exact splice_arB rfl | exact splice_arB (arB_len _ _) | rfl) (by first | (dsimp only [List.set, List.append, List.cons_append, List.nil_append, splice, ofConst, AV.cells, List.map, List.map_cons, List.map_nil, List.take, List.drop, Nat.zero_add, Nat.add_zero, Nat.reduceAdd, Nat.reduceMul, Nat.zero_mul, Value.cells, List.toList_toArray, zerosA, List.replicate, List.flatten, List.append_nil]; rfl) | (dsimp only [List.set, List.append, List.cons_append, List.nil_append, splice, ofConst, AV.cells, List.map, List.map_cons, List.map_nil, List.take, List.drop, Nat.zero_add, Nat.add_zero, Nat.reduceAdd, Nat.reduceMul, Nat.zero_mul, Value.cells, List.toList_toArray, zerosA, List.replicate, List.flatten, List.append_nil]; done) | rfl) ?_) | (refine AO.store (i := 8) rfl rfl rfl rfl rfl rfl (by first | exact arB_one _ _ | rfl | assumption | (simp [AV.cells, AV.one, *]; done) | (simp [AV.cells, AV.one, roB, roI, roO, show ∀ k z, (Value.int k z).oneCell' = true from fun _ _ => rfl, show ∀ k, (Value.bool k).oneCell' = true from fun _ => rfl, *]; done) | simp [AV.cells, AV.one, Value.oneCell', *]) (by first | exact arB_len _ _ | rfl) (by first | exact Nat.ble_eq_true_of_le (Nat.le_of_eq (arB_len _ _).symm) | rfl) (by first | exact splice_arB rfl | exact splice_arB (arB_len _ _) | rfl) (by first | (dsimp only [List.set, List.append, List.cons_append, List.nil_append, splice, ofConst, AV.cells, List.map, List.map_cons, List.map_nil, List.take, List.drop, Nat.zero_add, Nat.add_zero, Nat.reduceAdd, Nat.reduceMul, Nat.zero_mul, Value.cells, List.toList_toArray, zerosA, List.replicate, List.flatten, List.append_nil]; rfl) | (dsimp only [List.set, List.append, List.cons_append, List.nil_append, splice, ofConst, AV.cells, List.map, List.map_cons, List.map_nil, List.take, List.drop, Nat.zero_add, Nat.add_zero, Nat.reduceAdd, Nat.reduceMul, Nat.zero_mul, Value.cells, List.toList_toArray, zerosA, List.replicate, List.flatten, List.append_nil]; done) | rfl) ?_) | (refine AO.store (i := 9) rfl rfl rfl rfl rfl rfl (by first | exact arB_one _ _ | rfl | assumption | (simp [AV.cells, AV.one, *]; done) | (simp [AV.cells, AV.one, roB, roI, roO, show ∀ k z, (Value.int k z).oneCell' = true from fun _ _ => rfl, show ∀ k, (Value.bool k).oneCell' = true from fun _ => rfl, *]; done) | simp [AV.cells, AV.one, Value.oneCell', *]) (by first | exact arB_len _ _ | rfl) (by first | exact Nat.ble_eq_true_of_le (Nat.le_of_eq (arB_len _ _).symm) | rfl) (by first | exact splice_arB rfl | exact splice_arB (arB_len _ _) | rfl) (by first | (dsimp only [List.set, List.append, List.cons_append, List.nil_append, splice, ofConst, AV.cells, List.map, List.map_cons, List.map_nil, List.take, List.drop, Nat.zero_add, Nat.add_zero, Nat.reduceAdd, Nat.reduceMul, Nat.zero_mul, Value.cells, List.toList_toArray, zerosA, List.replicate, List.flatten, List.append_nil]; rfl) | (dsimp only [List.set, List.append, List.cons_append, List.nil_append, splice, ofConst, AV.cells, List.map, List.map_cons, List.map_nil, List.take, List.drop, Nat.zero_add, Nat.add_zero, Nat.reduceAdd, Nat.reduceMul, Nat.zero_mul, Value.cells, List.toList_toArray, zerosA, List.replicate, List.flatten, List.append_nil]; done) | rfl) ?_)
  refine AO.nil ?_
  refine AQ.thenN ?_
  refine AW.seq ?_
  refine AW.regionD 6 (by kernel_rfl) (by kernel_rfl) ?_
  simp only [List.take_succ_cons, List.take_zero, List.drop_succ_cons, List.drop_zero]
  refine FA.op (O.move rfl rfl) rfl rfl rfl rfl ?_
  first | (refine FA.op (O.nilCheck rfl rfl) rfl rfl rfl rfl ?_) | (refine FA.op (O.nilCheckR rfl rfl) rfl rfl rfl rfl ?_)
  first | (refine FA.op (O.fieldAddrR rfl rfl) rfl rfl rfl rfl ?_) | (refine FA.op (O.fieldAddr rfl rfl) rfl rfl rfl rfl ?_)
  refine FA.op (O.move rfl rfl) rfl rfl rfl rfl ?_
  first | (refine FA.op (O.nilCheck rfl rfl) rfl rfl rfl rfl ?_) | (refine FA.op (O.nilCheckR rfl rfl) rfl rfl rfl rfl ?_)
  first | (refine FA.op (O.fieldAddrR rfl rfl) rfl rfl rfl rfl ?_) | (refine FA.op (O.fieldAddr rfl rfl) rfl rfl rfl rfl ?_)
  refine FA.nil ?_
  simp only [chosen, List.nil_append, List.cons_append, List.append_nil]
  first | (refine AO.callM1 (i := 0) rfl rfl Try.func56 rfl rfl rfl rfl rfl rfl (encrypt_fn _ f w (cipA w) (cipA w) 0 512 (cip_to w) (cip_rk w)) (by first | (dsimp only [List.set, List.append, List.cons_append, List.nil_append, splice, ofConst, AV.cells, List.map, List.map_cons, List.map_nil, List.take, List.drop, Nat.zero_add, Nat.add_zero, Nat.reduceAdd, Nat.reduceMul, Nat.zero_mul, Value.cells, List.toList_toArray, zerosA, List.replicate, List.flatten, List.append_nil]; rfl) | (dsimp only [List.set, List.append, List.cons_append, List.nil_append, splice, ofConst, AV.cells, List.map, List.map_cons, List.map_nil, List.take, List.drop, Nat.zero_add, Nat.add_zero, Nat.reduceAdd, Nat.reduceMul, Nat.zero_mul, Value.cells, List.toList_toArray, zerosA, List.replicate, List.flatten, List.append_nil]; done) | rfl) ?_) | (refine AO.callM1 (i := 1) rfl rfl Try.func56 rfl rfl rfl rfl rfl rfl (encrypt_fn _ f w (cipA w) (cipA w) 0 512 (cip_to w) (cip_rk w)) (by first | (dsimp only [List.set, List.append, List.cons_append, List.nil_append, splice, ofConst, AV.cells, List.map, List.map_cons, List.map_nil, List.take, List.drop, Nat.zero_add, Nat.add_zero, Nat.reduceAdd, Nat.reduceMul, Nat.zero_mul, Value.cells, List.toList_toArray, zerosA, List.replicate, List.flatten, List.append_nil]; rfl) | (dsimp only [List.set, List.append, List.cons_append, List.nil_append, splice, ofConst, AV.cells, List.map, List.map_cons, List.map_nil, List.take, List.drop, Nat.zero_add, Nat.add_zero, Nat.reduceAdd, Nat.reduceMul, Nat.zero_mul, Value.cells, List.toList_toArray, zerosA, List.replicate, List.flatten, List.append_nil]; done) | rfl) ?_) | (refine AO.callM1 (i := 2) rfl rfl Try.func56 rfl rfl rfl rfl rfl rfl (encrypt_fn _ f w (cipA w) (cipA w) 0 512 (cip_to w) (cip_rk w)) (by first | (dsimp only [List.set, List.append, List.cons_append, List.nil_append, splice, ofConst, AV.cells, List.map, List.map_cons, List.map_nil, List.take, List.drop, Nat.zero_add, Nat.add_zero, Nat.reduceAdd, Nat.reduceMul, Nat.zero_mul, Value.cells, List.toList_toArray, zerosA, List.replicate, List.flatten, List.append_nil]; rfl) | (dsimp only [List.set, List.append, List.cons_append, List.nil_append, splice, ofConst, AV.cells, List.map, List.map_cons, List.map_nil, List.take, List.drop, Nat.zero_add, Nat.add_zero, Nat.reduceAdd, Nat.reduceMul, Nat.zero_mul, Value.cells, List.toList_toArray, zerosA, List.replicate, List.flatten, List.append_nil]; done) | rfl) ?_) | (refine AO.callM1 (i := 3) rfl rfl Try.func56 rfl rfl rfl rfl rfl rfl (encrypt_fn _ f w (cipA w) (cipA w) 0 512 (cip_to w) (cip_rk w)) (by first | (dsimp only [List.set, List.append, List.cons_append, List.nil_append, splice, ofConst, AV.cells, List.map, List.map_cons, List.map_nil, List.take, List.drop, Nat.zero_add, Nat.add_zero, Nat.reduceAdd, Nat.reduceMul, Nat.zero_mul, Value.cells, List.toList_toArray, zerosA, List.replicate, List.flatten, List.append_nil]; rfl) | (dsimp only [List.set, List.append, List.cons_append, List.nil_append, splice, ofConst, AV.cells, List.map, List.map_cons, List.map_nil, List.take, List.drop, Nat.zero_add, Nat.add_zero, Nat.reduceAdd, Nat.reduceMul, Nat.zero_mul, Value.cells, List.toList_toArray, zerosA, List.replicate, List.flatten, List.append_nil]; done) | rfl) ?_) | (refine AO.callM1 (i := 4) rfl rfl Try.func56 rfl rfl rfl rfl rfl rfl (encrypt_fn _ f w (cipA w) (cipA w) 0 512 (cip_to w) (cip_rk w)) (by first | (dsimp only [List.set, List.append, List.cons_append, List.nil_append, splice, ofConst, AV.cells, List.map, List.map_cons, List.map_nil, List.take, List.drop, Nat.zero_add, Nat.add_zero, Nat.reduceAdd, Nat.reduceMul, Nat.zero_mul, Value.cells, List.toList_toArray, zerosA, List.replicate, List.flatten, List.append_nil]; rfl) | (dsimp only [List.set, List.append, List.cons_append, List.nil_append, splice, ofConst, AV.cells, List.map, List.map_cons, List.map_nil, List.take, List.drop, Nat.zero_add, Nat.add_zero, Nat.reduceAdd, Nat.reduceMul, Nat.zero_mul, Value.cells, List.toList_toArray, zerosA, List.replicate, List.flatten, List.append_nil]; done) | rfl) ?_) | (refine AO.callM1 (i := 5) rfl rfl Try.func56 rfl rfl rfl rfl rfl rfl (encrypt_fn _ f w (cipA w) (cipA w) 0 512 (cip_to w) (cip_rk w)) (by first | (dsimp only [List.set, List.append, List.cons_append, List.nil_append, splice, ofConst, AV.cells, List.map, List.map_cons, List.map_nil, List.take, List.drop, Nat.zero_add, Nat.add_zero, Nat.reduceAdd, Nat.reduceMul, Nat.zero_mul, Value.cells, List.toList_toArray, zerosA, List.replicate, List.flatten, List.append_nil]; rfl) | (dsimp only [List.set, List.append, List.cons_append, List.nil_append, splice, ofConst, AV.cells, List.map, List.map_cons, List.map_nil, List.take, List.drop, Nat.zero_add, Nat.add_zero, Nat.reduceAdd, Nat.reduceMul, Nat.zero_mul, Value.cells, List.toList_toArray, zerosA, List.replicate, List.flatten, List.append_nil]; done) | rfl) ?_) | (refine AO.callM1 (i := 6) rfl rfl Try.func56 rfl rfl rfl rfl rfl rfl (encrypt_fn _ f w (cipA w) (cipA w) 0 512 (cip_to w) (cip_rk w)) (by first | (dsimp only [List.set, List.append, List.cons_append, List.nil_append, splice, ofConst, AV.cells, List.map, List.map_cons, List.map_nil, List.take, List.drop, Nat.zero_add, Nat.add_zero, Nat.reduceAdd, Nat.reduceMul, Nat.zero_mul, Value.cells, List.toList_toArray, zerosA, List.replicate, List.flatten, List.append_nil]; rfl) | (dsimp only [List.set, List.append, List.cons_append, List.nil_append, splice, ofConst, AV.cells, List.map, List.map_cons, List.map_nil, List.take, List.drop, Nat.zero_add, Nat.add_zero, Nat.reduceAdd, Nat.reduceMul, Nat.zero_mul, Value.cells, List.toList_toArray, zerosA, List.replicate, List.flatten, List.append_nil]; done) | rfl) ?_) | (refine AO.callM1 (i := 7) rfl rfl Try.func56 rfl rfl rfl rfl rfl rfl (encrypt_fn _ f w (cipA w) (cipA w) 0 512 (cip_to w) (cip_rk w)) (by first | (dsimp only [List.set, List.append, List.cons_append, List.nil_append, splice, ofConst, AV.cells, List.map, List.map_cons, List.map_nil, List.take, List.drop, Nat.zero_add, Nat.add_zero, Nat.reduceAdd, Nat.reduceMul, Nat.zero_mul, Value.cells, List.toList_toArray, zerosA, List.replicate, List.flatten, List.append_nil]; rfl) | (dsimp only [List.set, List.append, List.cons_append, List.nil_append, splice, ofConst, AV.cells, List.map, List.map_cons, List.map_nil, List.take, List.drop, Nat.zero_add, Nat.add_zero, Nat.reduceAdd, Nat.reduceMul, Nat.zero_mul, Value.cells, List.toList_toArray, zerosA, List.replicate, List.flatten, List.append_nil]; done) | rfl) ?_) | (refine AO.callM1 (i := 8) rfl rfl Try.func56 rfl rfl rfl rfl rfl rfl (encrypt_fn _ f w (cipA w) (cipA w) 0 512 (cip_to w) (cip_rk w)) (by first | (dsimp only [List.set, List.append, List.cons_append, List.nil_append, splice, ofConst, AV.cells, List.map, List.map_cons, List.map_nil, List.take, List.drop, Nat.zero_add, Nat.add_zero, Nat.reduceAdd, Nat.reduceMul, Nat.zero_mul, Value.cells, List.toList_toArray, zerosA, List.replicate, List.flatten, List.append_nil]; rfl) | (dsimp only [List.set, List.append, List.cons_append, List.nil_append, splice, ofConst, AV.cells, List.map, List.map_cons, List.map_nil, List.take, List.drop, Nat.zero_add, Nat.add_zero, Nat.reduceAdd, Nat.reduceMul, Nat.zero_mul, Value.cells, List.toList_toArray, zerosA, List.replicate, List.flatten, List.append_nil]; done) | rfl) ?_) | (refine AO.callM1 (i := 9) rfl rfl Try.func56 rfl rfl rfl rfl rfl rfl (encrypt_fn _ f w (cipA w) (cipA w) 0 512 (cip_to w) (cip_rk w)) (by first | (dsimp only [List.set, List.append, List.cons_append, List.nil_append, splice, ofConst, AV.cells, List.map, List.map_cons, List.map_nil, List.take, List.drop, Nat.zero_add, Nat.add_zero, Nat.reduceAdd, Nat.reduceMul, Nat.zero_mul, Value.cells, List.toList_toArray, zerosA, List.replicate, List.flatten, List.append_nil]; rfl) | (dsimp only [List.set, List.append, List.cons_append, List.nil_append, splice, ofConst, AV.cells, List.map, List.map_cons, List.map_nil, List.take, List.drop, Nat.zero_add, Nat.add_zero, Nat.reduceAdd, Nat.reduceMul, Nat.zero_mul, Value.cells, List.toList_toArray, zerosA, List.replicate, List.flatten, List.append_nil]; done) | rfl) ?_)
  refine AO.nil ?_
  refine AQ.thenN ?_
  refine AW.seq ?_
  refine AW.region ?_
  first | (refine AO.op (O.loadRK rfl rfl (by first | exact List.take_of_length_le (Nat.le_of_eq (arB_len _ _)) | rfl) (by first | exact arB_len _ _ | rfl)) rfl rfl rfl ?_) | (refine AO.op (O.loadK rfl rfl (by repeat (first | exact List.Mem.head _ | refine List.Mem.tail _ ?_)) (by first | exact List.take_of_length_le (Nat.le_of_eq (arB_len _ _)) | rfl) (by first | exact arB_len _ _ | rfl)) rfl rfl rfl ?_) | (refine AO.op (O.loadK rfl rfl (by repeat (first | exact List.Mem.head _ | refine List.Mem.tail _ ?_)) (by first | (dsimp only [List.set, List.append, List.cons_append, List.nil_append, splice, ofConst, AV.cells, List.map, List.map_cons, List.map_nil, List.take, List.drop, Nat.zero_add, Nat.add_zero, Nat.reduceAdd, Nat.reduceMul, Nat.zero_mul, Value.cells, List.toList_toArray, zerosA, List.replicate, List.flatten, List.append_nil]; rfl) | (dsimp only [List.set, List.append, List.cons_append, List.nil_append, splice, ofConst, AV.cells, List.map, List.map_cons, List.map_nil, List.take, List.drop, Nat.zero_add, Nat.add_zero, Nat.reduceAdd, Nat.reduceMul, Nat.zero_mul, Value.cells, List.toList_toArray, zerosA, List.replicate, List.flatten, List.append_nil]; done) | rfl) (by first | exact arB_len _ _ | rfl)) rfl rfl rfl ?_)
  first | (refine AO.store (i := 0) rfl rfl rfl rfl rfl rfl (by first | exact arB_one _ _ | rfl | assumption | (simp [AV.cells, AV.one, *]; done) | (simp [AV.cells, AV.one, roB, roI, roO, show ∀ k z, (Value.int k z).oneCell' = true from fun _ _ => rfl, show ∀ k, (Value.bool k).oneCell' = true from fun _ => rfl, *]; done) | simp [AV.cells, AV.one, Value.oneCell', *]) (by first | exact arB_len _ _ | rfl) (by first | exact Nat.ble_eq_true_of_le (Nat.le_of_eq (arB_len _ _).symm) | rfl) (by first | exact splice_arB rfl | exact splice_arB (arB_len _ _) | rfl) (by first | (dsimp only [List.set, List.append, List.cons_append, List.nil_append, splice, ofConst, AV.cells, List.map, List.map_cons, List.map_nil, List.take, List.drop, Nat.zero_add, Nat.add_zero, Nat.reduceAdd, Nat.reduceMul, Nat.zero_mul, Value.cells, List.toList_toArray, zerosA, List.replicate, List.flatten, List.append_nil]; rfl) | (dsimp only [List.set, List.append, List.cons_append, List.nil_append, splice, ofConst, AV.cells, List.map, List.map_cons, List.map_nil, List.take, List.drop, Nat.zero_add, Nat.add_zero, Nat.reduceAdd, Nat.reduceMul, Nat.zero_mul, Value.cells, List.toList_toArray, zerosA, List.replicate, List.flatten, List.append_nil]; done) | rfl) ?_) | (refine AO.store (i := 1) rfl rfl rfl rfl rfl rfl (by first | exact arB_one _ _ | rfl | assumption | (simp [AV.cells, AV.one, *]; done) | (simp [AV.cells, AV.one, roB, roI, roO, show ∀ k z, (Value.int k z).oneCell' = true from fun _ _ => rfl, show ∀ k, (Value.bool k).oneCell' = true from fun _ => rfl, *]; done) | simp [AV.cells, AV.one, Value.oneCell', *]) (by first | exact arB_len _ _ | rfl) (by first | exact Nat.ble_eq_true_of_le (Nat.le_of_eq (arB_len _ _).symm) | rfl) (by first | exact splice_arB rfl | exact splice_arB (arB_len _ _) | rfl) (by first | (dsimp only [List.set, List.append, List.cons_append, List.nil_append, splice, ofConst, AV.cells, List.map, List.map_cons, List.map_nil, List.take, List.drop, Nat.zero_add, Nat.add_zero, Nat.reduceAdd, Nat.reduceMul, Nat.zero_mul, Value.cells, List.toList_toArray, zerosA, List.replicate, List.flatten, List.append_nil]; rfl) | (dsimp only [List.set, List.append, List.cons_append, List.nil_append, splice, ofConst, AV.cells, List.map, List.map_cons, List.map_nil, List.take, List.drop, Nat.zero_add, Nat.add_zero, Nat.reduceAdd, Nat.reduceMul, Nat.zero_mul, Value.cells, List.toList_toArray, zerosA, List.replicate, List.flatten, List.append_nil]; done) | rfl) ?_) | (refine AO.store (i := 2) rfl rfl rfl rfl rfl rfl (by first | exact arB_one _ _ | rfl | assumption | (simp [AV.cells, AV.one, *]; done) | (simp [AV.cells, AV.one, roB, roI, roO, show ∀ k z, (Value.int k z).oneCell' = true from fun _ _ => rfl, show ∀ k, (Value.bool k).oneCell' = true from fun _ => rfl, *]; done) | simp [AV.cells, AV.one, Value.oneCell', *]) (by first | exact arB_len _ _ | rfl) (by first | exact Nat.ble_eq_true_of_le (Nat.le_of_eq (arB_len _ _).symm) | rfl) (by first | exact splice_arB rfl | exact splice_arB (arB_len _ _) | rfl) (by first | (dsimp only [List.set, List.append, List.cons_append, List.nil_append, splice, ofConst, AV.cells, List.map, List.map_cons, List.map_nil, List.take, List.drop, Nat.zero_add, Nat.add_zero, Nat.reduceAdd, Nat.reduceMul, Nat.zero_mul, Value.cells, List.toList_toArray, zerosA, List.replicate, List.flatten, List.append_nil]; rfl) | (dsimp only [List.set, List.append, List.cons_append, List.nil_append, splice, ofConst, AV.cells, List.map, List.map_cons, List.map_nil, List.take, List.drop, Nat.zero_add, Nat.add_zero, Nat.reduceAdd, Nat.reduceMul, Nat.zero_mul, Value.cells, List.toList_toArray, zerosA, List.replicate, List.flatten, List.append_nil]; done) | rfl) ?_) | (refine AO.store (i := 3) rfl rfl rfl rfl rfl rfl (by first | exact arB_one _ _ | rfl | assumption | (simp [AV.cells, AV.one, *]; done) | (simp [AV.cells, AV.one, roB, roI, roO, show ∀ k z, (Value.int k z).oneCell' = true from fun _ _ => rfl, show ∀ k, (Value.bool k).oneCell' = true from fun _ => rfl, *]; done) | simp [AV.cells, AV.one, Value.oneCell', *]) (by first | exact arB_len _ _ | rfl) (by first | exact Nat.ble_eq_true_of_le (Nat.le_of_eq (arB_len _ _).symm) | rfl) (by first | exact splice_arB rfl | exact splice_arB (arB_len _ _) | rfl) (by first | (dsimp only [List.set, List.append, List.cons_append, List.nil_append, splice, ofConst, AV.cells, List.map, List.map_cons, List.map_nil, List.take, List.drop, Nat.zero_add, Nat.add_zero, Nat.reduceAdd, Nat.reduceMul, Nat.zero_mul, Value.cells, List.toList_toArray, zerosA, List.replicate, List.flatten, List.append_nil]; rfl) | (dsimp only [List.set, List.append, List.cons_append, List.nil_append, splice, ofConst, AV.cells, List.map, List.map_cons, List.map_nil, List.take, List.drop, Nat.zero_add, Nat.add_zero, Nat.reduceAdd, Nat.reduceMul, Nat.zero_mul, Value.cells, List.toList_toArray, zerosA, List.replicate, List.flatten, List.append_nil]; done) | rfl) ?_) | (refine AO.store (i := 4) rfl rfl rfl rfl rfl rfl (by first | exact arB_one _ _ | rfl | assumption | (simp [AV.cells, AV.one, *]; done) | (simp [AV.cells, AV.one, roB, roI, roO, show ∀ k z, (Value.int k z).oneCell' = true from fun _ _ => rfl, show ∀ k, (Value.bool k).oneCell' = true from fun _ => rfl, *]; done) | simp [AV.cells, AV.one, Value.oneCell', *]) (by first | exact arB_len _ _ | rfl) (by first | exact Nat.ble_eq_true_of_le (Nat.le_of_eq (arB_len _ _).symm) | rfl) (by first | exact splice_arB rfl | exact splice_arB (arB_len _ _) | rfl) (by first | (dsimp only [List.set, List.append, List.cons_append, List.nil_append, splice, ofConst, AV.cells, List.map, List.map_cons, List.map_nil, List.take, List.drop, Nat.zero_add, Nat.add_zero, Nat.reduceAdd, Nat.reduceMul, Nat.zero_mul, Value.cells, List.toList_toArray, zerosA, List.replicate, List.flatten, List.append_nil]; rfl) | (dsimp only [List.set, List.append, List.cons_append, List.nil_append, splice, ofConst, AV.cells, List.map, List.map_cons, List.map_nil, List.take, List.drop, Nat.zero_add, Nat.add_zero, Nat.reduceAdd, Nat.reduceMul, Nat.zero_mul, Value.cells, List.toList_toArray, zerosA, List.replicate, List.flatten, List.append_nil]; done) | rfl) ?_) | (refine AO.store (i := 5) rfl rfl rfl rfl rfl rfl (by first | exact arB_one _ _ | rfl | assumption | (simp [AV.cells, AV.one, *]; done) | (simp [AV.cells, AV.one, roB, roI, roO, show ∀ k z, (Value.int k z).oneCell' = true from fun _ _ => rfl, show ∀ k, (Value.bool k).oneCell' = true from fun _ => rfl, *]; done) | simp [AV.cells, AV.one, Value.oneCell', *]) (by first | exact arB_len _ _ | rfl) (by first | exact Nat.ble_eq_true_of_le (Nat.le_of_eq (arB_len _ _).symm) | rfl) (by first | exact splice_arB rfl | exact splice_arB (arB_len _ _) | rfl) (by first | (dsimp only [List.set, List.append, List.cons_append, List.nil_append, splice, ofConst, AV.cells, List.map, List.map_cons, List.map_nil, List.take, List.drop, Nat.zero_add, Nat.add_zero, Nat.reduceAdd, Nat.reduceMul, Nat.zero_mul, Value.cells, List.toList_toArray, zerosA, List.replicate, List.flatten, List.append_nil]; rfl) | (dsimp only [List.set, List.append, List.cons_append, List.nil_append, splice, ofConst, AV.cells, List.map, List.map_cons, List.map_nil, List.take, List.drop, Nat.zero_add, Nat.add_zero, Nat.reduceAdd, Nat.reduceMul, Nat.zero_mul, Value.cells, List.toList_toArray, zerosA, List.replicate, List.flatten, List.append_nil]; done) | rfl) ?_) | (refine AO.store (i := 6) rfl rfl rfl rfl rfl rfl (by first | exact arB_one _ _ | rfl | assumption | (simp [AV.cells, AV.one, *]; done) | (simp [AV.cells, AV.one, roB, roI, roO, show ∀ k z, (Value.int k z).oneCell' = true from fun _ _ => rfl, show ∀ k, (Value.bool k).oneCell' = true from fun _ => rfl, *]; done) | simp [AV.cells, AV.one, Value.oneCell', *]) (by first | exact arB_len _ _ | rfl) (by first | exact Nat.ble_eq_true_of_le (Nat.le_of_eq (arB_len _ _).symm) | rfl) (by first | exact splice_arB rfl | exact splice_arB (arB_len _ _) | rfl) (by first | (dsimp only [List.set, List.append, List.cons_append, List.nil_append, splice, ofConst, AV.cells, List.map, List.map_cons, List.map_nil, List.take, List.drop, Nat.zero_add, Nat.add_zero, Nat.reduceAdd, Nat.reduceMul, Nat.zero_mul, Value.cells, List.toList_toArray, zerosA, List.replicate, List.flatten, List.append_nil]; rfl) | (dsimp only [List.set, List.append, List.cons_append, List.nil_append, splice, ofConst, AV.cells, List.map, List.map_cons, List.map_nil, List.take, List.drop, Nat.zero_add, Nat.add_zero, Nat.reduceAdd, Nat.reduceMul, Nat.zero_mul, Value.cells, List.toList_toArray, zerosA, List.replicate, List.flatten, List.append_nil]; done) | rfl) ?_) | (refine AO.store (i := 7) rfl rfl rfl rfl rfl rfl (by first | exact arB_one _ _ | rfl | assumption | (simp [AV.cells, AV.one, *]; done) | (simp [AV.cells, AV.one, roB, roI, roO, show ∀ k z, (Value.int k z).oneCell' = true from fun _ _ => rfl, show ∀ k, (Value.bool k).oneCell' = true from fun _ => rfl, *]; done) | simp [AV.cells, AV.one, Value.oneCell', *]) (by first | exact arB_len _ _ | rfl) (by first | exact Nat.ble_eq_true_of_le (Nat.le_of_eq (arB_len _ _).symm) | rfl) (by first | exact splice_arB rfl | exact splice_arB (arB_len _ _) | rfl) (by first | (dsimp only [List.set, List.append, List.cons_append, List.nil_append, splice, ofConst, AV.cells, List.map, List.map_cons, List.map_nil, List.take, List.drop, Nat.zero_add, Nat.add_zero, Nat.reduceAdd, Nat.reduceMul, Nat.zero_mul, Value.cells, List.toList_toArray, zerosA, List.replicate, List.flatten, List.append_nil]; rfl) | (dsimp only [List.set, List.append, List.cons_append, List.nil_append, splice, ofConst, AV.cells, List.map, List.map_cons, List.map_nil, List.take, List.drop, Nat.zero_add, Nat.add_zero, Nat.reduceAdd, Nat.reduceMul, Nat.zero_mul, Value.cells, List.toList_toArray, zerosA, List.replicate, List.flatten, List.append_nil]; done) | rfl) ?_) | (refine AO.store (i := 8) rfl rfl rfl rfl rfl rfl (by first | exact arB_one _ _ | rfl | assumption | (simp [AV.cells, AV.one, *]; done) | (simp [AV.cells, AV.one, roB, roI, roO, show ∀ k z, (Value.int k z).oneCell' = true from fun _ _ => rfl, show ∀ k, (Value.bool k).oneCell' = true from fun _ => rfl, *]; done) | simp [AV.cells, AV.one, Value.oneCell', *]) (by first | exact arB_len _ _ | rfl) (by first | exact Nat.ble_eq_true_of_le (Nat.le_of_eq (arB_len _ _).symm) | rfl) (by first | exact splice_arB rfl | exact splice_arB (arB_len _ _) | rfl) (by first | (dsimp only [List.set, List.append, List.cons_append, List.nil_append, splice, ofConst, AV.cells, List.map, List.map_cons, List.map_nil, List.take, List.drop, Nat.zero_add, Nat.add_zero, Nat.reduceAdd, Nat.reduceMul, Nat.zero_mul, Value.cells, List.toList_toArray, zerosA, List.replicate, List.flatten, List.append_nil]; rfl) | (dsimp only [List.set, List.append, List.cons_append, List.nil_append, splice, ofConst, AV.cells, List.map, List.map_cons, List.map_nil, List.take, List.drop, Nat.zero_add, Nat.add_zero, Nat.reduceAdd, Nat.reduceMul, Nat.zero_mul, Value.cells, List.toList_toArray, zerosA, List.replicate, List.flatten, List.append_nil]; done) | rfl) ?_) | (refine AO.store (i := 9) rfl rfl rfl rfl rfl rfl (by first | exact arB_one _ _ | rfl | assumption | (simp [AV.cells, AV.one, *]; done) | (simp [AV.cells, AV.one, roB, roI, roO, show ∀ k z, (Value.int k z).oneCell' = true from fun _ _ => rfl, show ∀ k, (Value.bool k).oneCell' = true from fun _ => rfl, *]; done) | simp [AV.cells, AV.one, Value.oneCell', *]) (by first | exact arB_len _ _ | rfl) (by first | exact Nat.ble_eq_true_of_le (Nat.le_of_eq (arB_len _ _).symm) | rfl) (by first | exact splice_arB rfl | exact splice_arB (arB_len _ _) | rfl) (by first | (dsimp only [List.set, List.append, List.cons_append, List.nil_append, splice, ofConst, AV.cells, List.map, List.map_cons, List.map_nil, List.take, List.drop, Nat.zero_add, Nat.add_zero, Nat.reduceAdd, Nat.reduceMul, Nat.zero_mul, Value.cells, List.toList_toArray, zerosA, List.replicate, List.flatten, List.append_nil]; rfl) | (dsimp only [List.set, List.append, List.cons_append, List.nil_append, splice, ofConst, AV.cells, List.map, List.map_cons, List.map_nil, List.take, List.drop, Nat.zero_add, Nat.add_zero, Nat.reduceAdd, Nat.reduceMul, Nat.zero_mul, Value.cells, List.toList_toArray, zerosA, List.replicate, List.flatten, List.append_nil]; done) | rfl) ?_)
  refine AO.nil ?_
  refine AQ.thenN ?_
  refine AW.ret ?_
  refine AQ.retCell rfl rfl (by repeat (first | exact List.Mem.head _ | refine List.Mem.tail _ ?_)) (by first | (dsimp only [List.set, List.append, List.cons_append, List.nil_append, splice, ofConst, AV.cells, List.map, List.map_cons, List.map_nil, List.take, List.drop, Nat.zero_add, Nat.add_zero, Nat.reduceAdd, Nat.reduceMul, Nat.zero_mul, Value.cells, List.toList_toArray, zerosA, List.replicate, List.flatten, List.append_nil]; rfl) | (dsimp only [List.set, List.append, List.cons_append, List.nil_append, splice, ofConst, AV.cells, List.map, List.map_cons, List.map_nil, List.take, List.drop, Nat.zero_add, Nat.add_zero, Nat.reduceAdd, Nat.reduceMul, Nat.zero_mul, Value.cells, List.toList_toArray, zerosA, List.replicate, List.flatten, List.append_nil]; done) | rfl) rfl ⟨_, List.nil_sublist _, .nil⟩ (⟨rfl, rfl⟩)
end Go.Proofs.Ytochjihddnkhcaa.By

namespace Go.Proofs.Ytochjihddnkhcaa.By
open Go.RowKit L A
set_option linter.unusedVariables false
set_option linter.unusedSimpArgs false
attribute [local irreducible] AW AQ AO
def encL (key blk : List UInt8) : List UInt8 := if key.length = 16 ∧ blk.length = 16 then fnB 16 (enc (wS (kf key)) (kf blk)) else []
def encE (key blk : List UInt8) : Int := if key.length = 16 ∧ blk.length = 16 then 0 else 1
set_option maxRecDepth 20000 in
set_option maxHeartbeats 4000000 in
theorem aesenc_fn (key blk : List UInt8) : Sp Try.prog 20 [roB key, roB blk] [] (Is (.tup [roB (encL key blk), .val (.int .i64 (encE key blk))])) := by
  refine Sp.enter Try.func20 rfl _ Try.ntmps20 rfl (fun w0 R0 => ?_)
  refine AW.seq ?_
  refine AW.region ?_
  refine AO.op (O.assign rfl rfl) rfl rfl rfl ?_
  refine AO.op (O.assign rfl rfl) rfl rfl rfl ?_
  refine AO.nil ?_
  refine AQ.thenN ?_
  refine AW.seq ?_
  refine AW.seq ?_
  refine AW.region ?_
  refine AO.op (O.move rfl rfl) rfl rfl rfl ?_
  refine AO.op (O.lenR rfl rfl) rfl rfl rfl ?_
  refine AO.op (O.neq rfl rfl rfl (by rfl)) rfl rfl rfl ?_
  refine AO.op (O.move rfl rfl) rfl rfl rfl ?_
  refine AO.opG rfl rfl rfl (fun hp => O.move rfl rfl) ?_
  refine AO.opG rfl rfl rfl (fun hp => OpW.force 11 rfl (by exact hp) (O.lenR rfl rfl)) ?_
  refine AO.opG rfl rfl rfl (fun hp => OpW.force 12 rfl (by exact hp) (O.neq rfl rfl rfl (by rfl))) ?_
  refine AO.op (O.pickOr rfl rfl rfl rfl (fun h => by exact congrArg (fun b => !b) h)) rfl rfl rfl ?_
  refine AO.nil ?_
  refine AQ.thenN ?_
  refine AW.split rfl (fun h => ?_) (fun h => ?_) <;> (try simp only [decide_eq_true_eq, decide_eq_false_iff_not, beq_iff_eq, beq_eq_false_iff_ne, bne_iff_ne, bne_eq_false_iff_eq, Bool.not_eq_true', Bool.not_eq_false', Bool.not_eq_true, Bool.not_eq_false, ne_eq, Int.not_lt, Int.not_le, Bool.and_eq_true, Bool.or_eq_true, Bool.or_eq_false_iff, Bool.and_eq_false_imp, strOf_toList, Decidable.not_not] at h)
  · skip
    have e1 : encL key blk = [] := if_neg (by omega)
    have e2 : encE key blk = 1 := if_neg (by omega)
    rw [e1, e2]
    refine AW.seq ?_
    refine AW.region ?_
    refine AO.op (O.assign rfl rfl) rfl rfl rfl ?_
    refine AO.op (O.assign rfl rfl) rfl rfl rfl ?_
    refine AO.nil ?_
    refine AQ.thenN ?_
    refine AW.ret ?_
    refine AQ.thenR ?_
    refine FnQ.coe (AQ.ret2 rfl rfl rfl ⟨_, List.nil_sublist _, .nil⟩ ⟨rfl, rfl⟩) (Coe.tup (by (repeat (first | exact CoeL.nil | refine CoeL.cons Coe.rfl ?_ | refine CoeL.cons Coe.nil ?_)); done)) (⟨rfl, rfl⟩)
  · skip
    have hk : key.length = 16 := by omega
    have hb : blk.length = 16 := by omega
    rw [encL, encE, if_pos ⟨hk, hb⟩, if_pos ⟨hk, hb⟩]
    refine AW.g ?_
    refine G.re 0 (.ro false 16 (arB 16 (kf key))) (congrArg some (roB_kf hk)) ?_
    refine AW.u ?_
    refine AW.g ?_
    refine G.re 1 (.ro false 16 (arB 16 (kf blk))) (congrArg some (roB_kf hb)) ?_
    refine AW.u ?_
    refine AW.skip ?_
    refine AQ.thenN ?_
    refine AW.seq ?_
    refine AW.regionA _ (Al.mk' (i := 6) (d := 6) (T := 55) _ rfl rfl rfl rfl rfl (by (dsimp only [List.set, List.append, List.cons_append, List.nil_append, splice, ofConst, AV.cells, List.map, List.map_cons, List.map_nil, List.take, List.drop, Nat.zero_add, Nat.add_zero, Nat.reduceAdd, Nat.reduceMul, Nat.zero_mul, Value.cells, List.toList_toArray, zerosA, List.replicate, List.flatten, List.append_nil]; done)) (by rfl)) [(0, false), (2, false), (3, false), (4, false), (1, true), (5, true), (6, true), (7, true)] (by kernel_rfl) (by kernel_rfl) (by exact splitNil) ?_
    dsimp only [List.eraseIdx]
    refine AN.op rfl (O.move rfl rfl) rfl rfl rfl ?_
    refine AN.op rfl (O.move rfl rfl) rfl rfl rfl ?_
    refine AN.op rfl (O.toArr rfl rfl (by omega) (by omega)) rfl rfl rfl ?_
    refine AN.op rfl (O.loadRK rfl rfl (by exact List.take_of_length_le (Nat.le_of_eq (arB_len _ _))) (by exact arB_len _ _)) rfl rfl rfl ?_
    refine AN.main _ rfl rfl (fun w0 R0 => ?_)
    refine AO.opB (O.call rfl Try.func40 rfl rfl rfl (aesnew_fn _)) rfl rfl rfl ?_
    intro B1
    refine AM.ok ?_
    dsimp only [putE]
    refine AN.main _ rfl rfl (fun w0 R0 => ?_)
    (refine AO.op (O.callLB rfl Try.func41 rfl rfl rfl (by repeat (exact List.Mem.head _)) (block_fn _ _) (plain_arB _ _) (by (repeat (first | exact LendB.nil | refine LendB.lend ?_ | refine LendB.same ?_)); done)) rfl rfl rfl ?_)
    refine AM.ok ?_
    dsimp only [putE]
    refine AN.box rfl ?_
    intro B2
    dsimp only [Al.he]
    refine AN.main _ rfl rfl (fun w0 R0 => ?_)
    (refine AO.store (i := 0) rfl rfl rfl rfl rfl rfl (by exact arB_one _ _) (by exact arB_len _ _) (by rfl) (by exact splice_arB rfl) (by (dsimp only [List.set, List.append, List.cons_append, List.nil_append, splice, ofConst, AV.cells, List.map, List.map_cons, List.map_nil, List.take, List.drop, Nat.zero_add, Nat.add_zero, Nat.reduceAdd, Nat.reduceMul, Nat.zero_mul, Value.cells, List.toList_toArray, zerosA, List.replicate, List.flatten, List.append_nil]; done)) ?_)
    refine AM.okN ?_
    dsimp only [putE]
    refine AN.nil ?_
    dsimp only [List.cons_append, List.nil_append]
    refine AQ.thenN ?_
    refine AW.seq ?_
    refine AW.region ?_
    refine AO.op (O.sliceArrK (p := 0) rfl rfl rfl rfl (by rfl) (by rfl) ⟨by omega, by omega⟩ (by omega)) rfl rfl rfl ?_
    refine AO.op (O.assign rfl rfl) rfl rfl rfl ?_
    refine AO.op (O.assign rfl rfl) rfl rfl rfl ?_
    refine AO.nil ?_
    refine AQ.thenN ?_
    refine AW.ret ?_
    refine AQ.g ?_
    (refine G.freezeSl 0 4 rfl rfl ⟨Nat.le_refl _, by unfold maxLen; omega⟩ ?_; refine G.unfull 4 rfl ?_)
    refine AQ.u ?_
    try dsimp only [List.map, List.eraseIdx, List.cons_append, List.nil_append]
    refine AQ.g ?_
    refine G.re 4 (roB (fnB 16 (enc (wS (kf key)) (kf blk)))) (congrArg some (roB_fnB 16 _).symm) ?_
    refine AQ.u ?_
    refine FnQ.coe (AQ.ret2 rfl rfl rfl ⟨_, List.nil_sublist _, .nil⟩ ⟨rfl, rfl⟩) (Coe.tup (by (repeat (first | exact CoeL.nil | refine CoeL.cons Coe.rfl ?_)); done)) (⟨rfl, rfl⟩)
def decS (w f : Nat → UInt8) : Nat → Nat → UInt8
  | 0 => f
  | k + 1 => shF iv 3 (if 10 - k < 10 then mixF (fun q => decS w f k q ^^^ w ((10 - k) * 16 + q)) mEBD9 else fun q => decS w f k q ^^^ w ((10 - k) * 16 + q))
def dec (w f : Nat → UInt8) (q : Nat) : UInt8 := decS w f 10 q ^^^ w (0 * 16 + q)
def decL (key blk : List UInt8) : List UInt8 := if key.length = 16 ∧ blk.length = 16 then fnB 16 (dec (wS (kf key)) (kf blk)) else []
def expL (key : List UInt8) : List UInt8 := if key.length = 16 then fnB 176 (wS (kf key)) else []
def expE (key : List UInt8) : Int := if key.length = 16 then 0 else 1
end Go.Proofs.Ytochjihddnkhcaa.By

namespace Go.Proofs.Ytochjihddnkhcaa.By
open Go.RowKit L A
set_option linter.unusedVariables false
set_option linter.unusedSimpArgs false
attribute [local irreducible] AW AQ AO
abbrev arr16 (b : Nat) (f : Nat → UInt8) : HE := .blk b 55 16 (arB 16 f)
def rK (f m : Nat → UInt8) (c r : Nat) : Nat → UInt8
  | 0 => 0
  | k + 1 => rK f m c r k ^^^ prod (f (4 * c + k)) (m ((k + 4 - r) % 4))
def rmixF (f m : Nat → UInt8) (q : Nat) : UInt8 := rK f m (q / 4) (q % 4) 4
theorem xor_lc (a b c : UInt8) : a ^^^ (b ^^^ c) = b ^^^ (a ^^^ c) := by rw [← UInt8.xor_assoc, UInt8.xor_comm a b, UInt8.xor_assoc]
def rU (f m : Nat → UInt8) (c r k q : Nat) : UInt8 := if q = 4 * c + r then rK f m c r k else if q < 4 * c + r then rmixF f m q else 0
end Go.Proofs.Ytochjihddnkhcaa.By

namespace Go.Proofs.Ytochjihddnkhcaa.By
open Go.RowKit L A
set_option linter.unusedVariables false
set_option linter.unusedSimpArgs false
attribute [local irreducible] AW AQ AO
def srcI (q : Nat) : Nat := 4 * ((q / 4 + 3 * (q % 4)) % 4) + q % 4
def bF (y : Nat → UInt8) (n q : Nat) : UInt8 := if srcI q < n then shF iv 3 y q else 0
def bk (i q : Nat) : UInt8 := if (iv (UInt8.ofNat q)).toNat < i then iv (UInt8.ofNat q) else 0
def VB (q : Nat) : UInt8 := iv (UInt8.ofNat q)
end Go.Proofs.Ytochjihddnkhcaa.By

namespace Go.Proofs.Ytochjihddnkhcaa.A
open Go.RowKit L
set_option linter.unusedVariables false
set_option linter.unusedSimpArgs false
section
variable {P : Program}

def pval : AV → Option Value
  | .val v => some v
  | .agg xs => (valsOf xs).map fun vs => .agg vs.toArray
  | _ => none
def pvals : List AV → Option (List Value)
  | [] => some []
  | x :: r => match pval x, pvals r with | some v, some vs => some (v :: vs) | _, _ => none
/-- A new row that the caller only reads. -/
theorem Sp.frozen {f : FuncId} {args : List AV} {T : TypeId} {sz n : Nat} {ys : List AV} (h : Sp P f args [] (NewRow T sz n ys)) : Sp P f args [] (Is (.ro false n ys)) := fun W R us h1 h2 h3 h4 => by
  refine (h W R us h1 h2 h3 h4).mono ?_
  rintro e W' ⟨u, r, H', R', rfl, ⟨v, rfl, hv1, rfl⟩, hs, hv⟩
  have hok := hs.ok _ (List.mem_cons_self ..)
  have hown := hs.own _ (List.mem_cons_self ..)
  have hu := hv.val_inv
  subst hu
  refine ⟨u, .ro false n ys, [], fun b => R' b ∨ (HE.row u T sz n ys).foot b, rfl, ⟨rfl, rfl⟩, ⟨hs.mods, ?_, fun b hb => .inl (hs.rsub b hb), ?_, fun _ h => (by cases h), fun _ h => (by cases h), .nil⟩, row_ro hok⟩
  · rintro b (hb | hb)
    · exact hs.rlt b hb
    · exact HE.ok_lt hok hb
  · rintro b (hb | hb)
    · exact hs.rnew b hb
    · exact .inr (hown b hb).1
end
end Go.Proofs.Ytochjihddnkhcaa.A

namespace Go.Proofs.Ytochjihddnkhcaa.By
open Go.RowKit L A
set_option linter.unusedVariables false
set_option linter.unusedSimpArgs false
attribute [local irreducible] AW AQ AO
theorem u64_nn (x : Int) : 0 ≤ IntKind.u64.wrap x := by rw [IntKind.wrap_u64]; exact Int.emod_nonneg _ (by decide)
def someF (k : Int) (i : Nat) : UInt8 := u8 (((u8 ((IntKind.u64.wrap k).fdiv (2 ^ min (IntKind.u64.wrap (8 * IntKind.u64.wrap ((i : Int).tmod 8))).toNat IntKind.u64.bits))).toNat : Int) + ((u8 (IntKind.i64.wrap ((i : Int).tdiv 8))).toNat : Int))
def seedF (k : Int) (i : Nat) : UInt8 := u8 ((IntKind.u64.wrap k).fdiv (2 ^ min (IntKind.u64.wrap (8 * IntKind.u64.wrap ((i : Int).tmod 8))).toNat IntKind.u64.bits)) ^^^ u8 (IntKind.i64.wrap (37 * IntKind.i64.wrap ((i : Int).tdiv 8)))
def someL (k : Int) (n : Nat) : List UInt8 := fnB n (someF k)
def seedL (k : Int) : List UInt8 := fnB 32 (seedF k)
set_option maxHeartbeats 2000000 in
theorem some_row (k : Int) (n : Nat) (hn : n ≤ 1000000) : Sp Try.prog 14 [.val (.int .i64 k), .val (.int .i64 (n : Int))] [] (NewRow 5 1 n (arB n (someF k))) := by
  refine Sp.enter Try.func14 rfl _ Try.ntmps14 rfl (fun w0 R0 => ?_)
  refine AW.seq ?_
  refine AW.region ?_
  refine AO.op (O.assign rfl rfl) rfl rfl rfl ?_
  refine AO.nil ?_
  refine AQ.thenN ?_
  refine AW.seq ?_
  refine AW.region ?_
  refine AO.op (O.assign rfl rfl) rfl rfl rfl ?_
  refine AO.nil ?_
  refine AQ.thenN ?_
  refine AW.seq ?_
  refine AW.seq ?_
  refine AW.region ?_
  refine AO.op (O.move rfl rfl) rfl rfl rfl ?_
  refine AO.op (O.move rfl rfl) rfl rfl rfl ?_
  refine AO.nil ?_
  refine AQ.thenN ?_
  refine AW.block ?_
  refine AW.g ?_
  refine G.nilRow 5 1 ?_
  refine AW.u ?_
  refine AW.loopK [(0, _), (7, _)] (fun nn E H => ∃ (i : Nat) (V : Value), (i ≤ n) ∧ (V.oneCell' = true) ∧ nn = n - i ∧ E = [(5, .val V), (8, .val (.int .i64 (i : Int)))] ∧ H = [.row V 5 1 i (arB i (someF k))]) _ (⟨0, _, by omega, rfl, rfl, rfl, rfl⟩) (by repeat (first | exact envNil | refine envCons rfl ?_)) (by repeat (first | exact envNil | refine envCons rfl ?_)) (by repeat (first | exact subPnil | refine subPcons 0 rfl ?_)) ?_
  rintro nn E H ⟨i, V, h1, hV, rfl, rfl, rfl⟩
  dsimp only [List.cons_append, List.nil_append]
  have hsh := u64_nn (8 * IntKind.u64.wrap ((i : Int).tmod 8))
  refine AW.seq ?_
  refine AW.region ?_
  refine AO.op (O.lss rfl rfl rfl (by rfl)) rfl rfl rfl ?_
  refine AO.nil ?_
  refine AQ.thenN ?_
  refine AW.seq ?_
  refine AW.split rfl (fun h => ?_) (fun h => ?_) <;> (try simp only [decide_eq_true_eq, decide_eq_false_iff_not, beq_iff_eq, beq_eq_false_iff_ne, bne_iff_ne, bne_eq_false_iff_eq, Bool.not_eq_true', Bool.not_eq_false', Bool.not_eq_true, Bool.not_eq_false, ne_eq, Int.not_lt, Int.not_le, Bool.and_eq_true, Bool.or_eq_true, Bool.or_eq_false_iff, Bool.and_eq_false_imp, strOf_toList, Decidable.not_not] at h)
  · skip
    refine AW.skip ?_
    refine AQ.thenN ?_
    refine AW.seq ?_
    refine AW.block ?_
    refine AW.seq ?_
    refine AW.region ?_
    refine AO.op (O.move rfl rfl) rfl rfl rfl ?_
    refine AO.op (O.assign rfl rfl) rfl rfl rfl ?_
    refine AO.nil ?_
    refine AQ.thenN ?_
    refine AW.region ?_
    refine AO.op (O.move rfl rfl) rfl rfl rfl ?_
    refine AO.op (O.move rfl rfl) rfl rfl rfl ?_
    refine AO.op (O.conv rfl rfl (by rfl)) rfl rfl rfl ?_
    refine AO.op (O.move rfl rfl) rfl rfl rfl ?_
    refine AO.op (O.rem rfl rfl rfl (by omega) rfl) rfl rfl rfl ?_
    refine AO.op (O.conv rfl rfl (by rfl)) rfl rfl rfl ?_
    refine AO.op (O.mul rfl rfl rfl (by rfl)) rfl rfl rfl ?_
    refine AO.op (O.shr rfl rfl rfl (by omega) rfl) rfl rfl rfl ?_
    refine AO.op (O.conv rfl rfl wU8any) rfl rfl rfl ?_
    refine AO.op (O.move rfl rfl) rfl rfl rfl ?_
    refine AO.op (O.quo rfl rfl rfl (by omega) (by rfl)) rfl rfl rfl ?_
    refine AO.op (O.conv rfl rfl wU8any) rfl rfl rfl ?_
    refine AO.op (O.add rfl rfl rfl (by exact wU8any)) rfl rfl rfl ?_
    refine AO.opB (O.buildSlice rfl rfl rfl (by rfl) (by rfl) (by rfl) (by rfl)) rfl rfl rfl ?_
    intro B1
    refine AO.g ?_
    (refine G.freezeSl 0 24 rfl rfl ⟨Nat.le_refl _, by unfold maxLen; omega⟩ ?_)
    refine G.unfull 24 rfl ?_
    refine AO.u ?_
    dsimp only [List.eraseIdx]
    (refine AO.append' (i := 0) rfl rfl rfl rfl (by rfl) (by rfl) rfl rfl rfl (by exact SrcA.ro TyD.ax (by rfl) (Nat.le_of_ble_eq_true rfl)) (by rfl) (by (unfold maxLen; omega)) (by omega) (by (dsimp only [List.set, List.append, List.cons_append, List.nil_append, roB_cells, roI_cells, roO_cells, splice, ofConst, AV.cells, List.map, List.map_cons, List.map_nil, List.take, List.drop, Nat.zero_add, Nat.add_zero, Nat.reduceAdd, Nat.reduceMul, Nat.zero_mul, Value.cells, List.toList_toArray, zerosA, List.replicate, List.flatten, List.append_nil]; done)) (fun _ => by (dsimp only [List.set]; done)) ?_)
    intro V2 hV2
    refine AO.op (O.assign rfl rfl) rfl rfl rfl ?_
    refine AO.nil ?_
    refine AQ.blockN ?_
    refine AQ.thenN ?_
    refine AW.region ?_
    refine AO.op (O.add rfl rfl rfl (by exact wI64 (by omega))) rfl rfl rfl ?_
    refine AO.op (O.move rfl rfl) rfl rfl rfl ?_
    refine AO.nil ?_
    refine AQ.loopKN _ _ _ (by omega) (⟨i + 1, V2, by omega, hV2, rfl, rfl, congrArg (fun xs => [HE.row V2 5 1 (i + 1) xs]) (arB_snoc (f := someF k) (n := i) rfl)⟩) (by repeat (first | exact envNil | refine envCons rfl ?_)) (by repeat (first | exact envNil | refine envCons rfl ?_)) (by repeat (first | exact subPnil | refine subPcons 0 rfl ?_))
  · skip
    obtain rfl : i = n := by omega
    refine AW.exit ?_
    refine AQ.thenX ?_
    refine AQ.loopX ?_
    refine AQ.blockX rfl ?_
    refine AQ.thenN ?_
    refine AW.seq ?_
    refine AW.region ?_
    refine AO.op (O.move rfl rfl) rfl rfl rfl ?_
    refine AO.op (O.assign rfl rfl) rfl rfl rfl ?_
    refine AO.nil ?_
    refine AQ.thenN ?_
    refine AW.ret ?_
    refine AQ.ret1 rfl rfl ⟨_, by repeat (first | exact List.Sublist.slnil | refine List.Sublist.cons_cons _ ?_), List.Perm.refl _⟩ (⟨V, rfl, hV, rfl⟩)
end Go.Proofs.Ytochjihddnkhcaa.By

namespace Go.Proofs.Ytochjihddnkhcaa.By
open Go.RowKit L A
set_option linter.unusedVariables false
set_option linter.unusedSimpArgs false
set_option maxRecDepth 20000
def DX (b : UInt8) : Prop := ∀ a, dbl (a ^^^ b) = dbl a ^^^ dbl b
theorem DX.xor {b c : UInt8} (h : DX b) (k : DX c) : DX (b ^^^ c) := fun a => by
  rw [← UInt8.xor_assoc, k, h, k, UInt8.xor_assoc]
theorem DX.zero : DX 0 := fun a => by rw [UInt8.xor_zero, show dbl 0 = 0 from rfl, UInt8.xor_zero]
theorem dx_bits : ∀ i, i < 8 → ∀ n, n < 256 → dbl (UInt8.ofNat n ^^^ UInt8.ofNat (2 ^ i)) = dbl (UInt8.ofNat n) ^^^ dbl (UInt8.ofNat (2 ^ i)) := by decide +kernel
theorem dx_bit {i : Nat} (hi : i < 8) : DX (UInt8.ofNat (2 ^ i)) := fun a => all256 (p := fun a => dbl (a ^^^ UInt8.ofNat (2 ^ i)) = dbl a ^^^ dbl (UInt8.ofNat (2 ^ i))) (dx_bits i hi) a
def pickB (b : UInt8) (i : Nat) : UInt8 := if b &&& UInt8.ofNat (2 ^ i) = 0 then 0 else UInt8.ofNat (2 ^ i)
theorem byte_bits (b : UInt8) : b = ((((((pickB b 0 ^^^ pickB b 1) ^^^ pickB b 2) ^^^ pickB b 3) ^^^ pickB b 4) ^^^ pickB b 5) ^^^ pickB b 6) ^^^ pickB b 7 :=
  all256 (p := fun b => b = ((((((pickB b 0 ^^^ pickB b 1) ^^^ pickB b 2) ^^^ pickB b 3) ^^^ pickB b 4) ^^^ pickB b 5) ^^^ pickB b 6) ^^^ pickB b 7) (by decide +kernel) b
theorem dx_pick (b : UInt8) {i : Nat} (hi : i < 8) : DX (pickB b i) := by
  unfold pickB
  split
  · exact .zero
  · exact dx_bit hi
theorem dbl_xor (a b : UInt8) : dbl (a ^^^ b) = dbl a ^^^ dbl b := by
  have h : DX b := by
    rw [byte_bits b]
    exact (((((((dx_pick b (by omega)).xor (dx_pick b (by omega))).xor (dx_pick b (by omega))).xor (dx_pick b (by omega))).xor (dx_pick b (by omega))).xor (dx_pick b (by omega))).xor (dx_pick b (by omega))).xor (dx_pick b (by omega))
  exact h a
theorem prodN_xor : ∀ n a b c p q, prodN n (a ^^^ b) c (p ^^^ q) = prodN n a c p ^^^ prodN n b c q
  | 0, _, _, _, _, _ => rfl
  | n + 1, a, b, c, p, q => by
    rw [prodN, prodN, prodN, dbl_xor]
    by_cases h : c &&& 1 = 1
    · rw [if_pos h, if_pos h, if_pos h, show p ^^^ q ^^^ (a ^^^ b) = (p ^^^ a) ^^^ (q ^^^ b) by simp only [UInt8.xor_assoc, UInt8.xor_comm, xor_lc]]
      exact prodN_xor n _ _ _ _ _
    · rw [if_neg h, if_neg h, if_neg h]
      exact prodN_xor n _ _ _ _ _
theorem prod_xor (a b c : UInt8) : prod (a ^^^ b) c = prod a c ^^^ prod b c := by
  have := prodN_xor 8 a b c 0 0
  rwa [UInt8.xor_zero] at this
theorem prod_zero (c : UInt8) : prod 0 c = 0 := all256 (p := fun c => prod 0 c = 0) (by decide +kernel) c
theorem shF_congr {S : UInt8 → UInt8} {d : Nat} {f g : Nat → UInt8} (h : ∀ q, q < 16 → f q = g q) : ∀ q, q < 16 → shF S d f q = shF S d g q := fun q hq => by
  unfold shF
  rw [h _ (by omega)]
theorem mixK_congr {f g m : Nat → UInt8} {i : Nat} (hi : i < 16) (h : ∀ q, q < 16 → f q = g q) : ∀ k, mixK f m i k = mixK g m i k
  | 0 => rfl
  | k + 1 => by rw [mixK, mixK, mixK_congr hi h k, h _ (by omega)]
theorem mixF_congr {f g m : Nat → UInt8} (h : ∀ q, q < 16 → f q = g q) : ∀ q, q < 16 → mixF f m q = mixF g m q := fun q hq => mixK_congr hq h 4
/-- What the byte s steps further gives to a byte that is mixed twice. -/
def TT (m n : Nat → UInt8) (s : Nat) (a : UInt8) : UInt8 := ((prod (prod a (m (s % 4))) (n 0) ^^^ prod (prod a (m ((s + 3) % 4))) (n 1)) ^^^ prod (prod a (m ((s + 2) % 4))) (n 2)) ^^^ prod (prod a (m ((s + 1) % 4))) (n 3)
set_option maxHeartbeats 4000000 in
theorem mix_mix (f m n : Nat → UInt8) (q : Nat) : mixF (mixF f m) n q = ((TT m n 0 (f (4 * (q / 4) + q % 4)) ^^^ TT m n 1 (f (4 * (q / 4) + (q % 4 + 1) % 4))) ^^^ TT m n 2 (f (4 * (q / 4) + (q % 4 + 2) % 4))) ^^^ TT m n 3 (f (4 * (q / 4) + (q % 4 + 3) % 4)) := by
  unfold mixF
  have h4 : q % 4 < 4 := Nat.mod_lt _ (by decide)
  have hd : ∀ r, r < 4 → (4 * (q / 4) + r) / 4 = q / 4 ∧ (4 * (q / 4) + r) % 4 = r := fun r hr => by omega
  simp only [mixK, TT]
  generalize q / 4 = c at *
  generalize q % 4 = r at *
  rcases (show r = 0 ∨ r = 1 ∨ r = 2 ∨ r = 3 by omega) with rfl | rfl | rfl | rfl <;>
    simp only [Nat.reduceAdd, Nat.reduceMod, hd 0 (by omega), hd 1 (by omega), hd 2 (by omega), hd 3 (by omega), UInt8.zero_xor, prod_xor, prod_zero] <;>
    ac_rfl
theorem tt_id : ∀ s, s < 4 → ∀ n, n < 256 → TT m2311 mEBD9 s (UInt8.ofNat n) = (if s = 0 then UInt8.ofNat n else 0) ∧ TT mEBD9 m2311 s (UInt8.ofNat n) = (if s = 0 then UInt8.ofNat n else 0) := by decide +kernel
theorem tt_one {s : Nat} (hs : s < 4) (a : UInt8) : TT m2311 mEBD9 s a = (if s = 0 then a else 0) := by
  have := (tt_id s hs a.toNat a.toNat_lt).1
  rwa [UInt8.ofNat_toNat] at this
theorem mix_inv (f : Nat → UInt8) (q : Nat) : mixF (mixF f m2311) mEBD9 q = f q := by
  rw [mix_mix, tt_one (by omega), tt_one (by omega), tt_one (by omega), tt_one (by omega)]
  simp only [if_true, Nat.one_ne_zero, if_false, show (2 : Nat) ≠ 0 by omega, show (3 : Nat) ≠ 0 by omega, UInt8.xor_zero]
  rw [show 4 * (q / 4) + q % 4 = q by omega]
theorem sh_inv (f : Nat → UInt8) {q : Nat} (hq : q < 16) : shF iv 3 (shF sb 1 f) q = f q := by
  unfold shF
  rw [ivsb]
  congr 1; omega
theorem encS_zero (w f : Nat → UInt8) (q : Nat) : encS w f 0 q = f q ^^^ w (0 * 16 + q) := rfl
theorem encS_succ (w f : Nat → UInt8) (j q : Nat) : encS w f (j + 1) q = (if j + 1 < 10 then mixF (shF sb 1 (encS w f j)) m2311 else shF sb 1 (encS w f j)) q ^^^ w ((j + 1) * 16 + q) := rfl
theorem xx (a b : UInt8) : a ^^^ b ^^^ b = a := by rw [UInt8.xor_assoc, UInt8.xor_self, UInt8.xor_zero]
theorem dec_at (w f : Nat → UInt8) : ∀ k, k ≤ 10 → ∀ q, q < 16 → decS w (enc w f) k q = encS w f (10 - k) q
  | 0, _, q, _ => rfl
  | k + 1, hk, q, hq => by
    have ih := dec_at w f k (by omega)
    obtain ⟨i, hi⟩ : ∃ i, 10 - k = i + 1 := ⟨9 - k, by omega⟩
    have hx : ∀ q, q < 16 → (fun q => decS w (enc w f) k q ^^^ w ((10 - k) * 16 + q)) q = (if i + 1 < 10 then mixF (shF sb 1 (encS w f i)) m2311 else shF sb 1 (encS w f i)) q := fun q hq => by
      show decS w (enc w f) k q ^^^ w ((10 - k) * 16 + q) = _
      rw [ih q hq, hi, encS]
      exact xx _ _
    rw [show 10 - (k + 1) = i by omega, decS]
    by_cases h : i + 1 < 10
    · rw [if_pos (by omega)]
      refine (shF_congr (fun q hq => mixF_congr hx q hq) q hq).trans ?_
      rw [if_pos h]
      exact (shF_congr (fun q _ => mix_inv _ q) q hq).trans (sh_inv _ hq)
    · rw [if_neg (by omega)]
      refine (shF_congr hx q hq).trans ?_
      rw [if_neg h]
      exact sh_inv _ hq
theorem dec_enc (w f : Nat → UInt8) {q : Nat} (hq : q < 16) : dec w (enc w f) q = f q := by
  unfold dec
  rw [dec_at w f 10 (Nat.le_refl _) q hq]
  exact xx _ _
theorem decS_congr {w f g : Nat → UInt8} (h : ∀ q, q < 16 → f q = g q) : ∀ k q, q < 16 → decS w f k q = decS w g k q
  | 0, q, hq => h q hq
  | k + 1, q, hq => by
    have ih : ∀ q, q < 16 → (fun q => decS w f k q ^^^ w ((10 - k) * 16 + q)) q = (fun q => decS w g k q ^^^ w ((10 - k) * 16 + q)) q := fun q hq => by
      show decS w f k q ^^^ _ = decS w g k q ^^^ _
      rw [decS_congr h k q hq]
    rw [decS, decS]
    by_cases h9 : 10 - k < 10
    · rw [if_pos h9, if_pos h9]; exact shF_congr (mixF_congr ih) q hq
    · rw [if_neg h9, if_neg h9]; exact shF_congr ih q hq
theorem encL_len {key blk : List UInt8} (hk : key.length = 16) (hb : blk.length = 16) : encL key blk = fnB 16 (enc (wS (kf key)) (kf blk)) ∧ (encL key blk).length = 16 := by
  rw [encL, if_pos ⟨hk, hb⟩]; exact ⟨rfl, fnB_len _ _⟩
/-! Ciphers told by their states. -/
def wStep (WL : List UInt8) (q : Nat) : UInt8 := (if q % 16 < 4 then sb (WL.getD (q - q % 16 - 4 + (q % 16 + 1) % 4) 0) ^^^ (if q % 16 = 0 then rcF (q / 16 - 1) else 0) else WL.getD (q - 4) 0) ^^^ WL.getD (q - 16) 0
theorem wS_lit {key : Nat → UInt8} {WL : List UInt8} (h0 : ∀ q, q < 16 → key q = WL.getD q 0) (h : ∀ q, q < 176 → 16 ≤ q → WL.getD q 0 = wStep WL q) : ∀ q, q < 176 → wS key q = WL.getD q 0 := fun q => by
  induction q using Nat.strongRecOn with
  | ind q ih =>
    intro hq
    by_cases h16 : q < 16
    · rw [wS_key h16, h0 q h16]
    · rw [h q hq (by omega), wS_ge h16, wStep, ih (q - 16) (by omega) (by omega)]
      by_cases h4 : q % 16 < 4
      · rw [if_pos h4, if_pos h4, ih (q - q % 16 - 4 + (q % 16 + 1) % 4) (by omega) (by omega)]
      · rw [if_neg h4, if_neg h4, ih (q - 4) (by omega) (by omega)]
def eStep (WL : List UInt8) (g : List UInt8) (j q : Nat) : UInt8 := (if j + 1 < 10 then mixF (shF sb 1 (kf g)) m2311 else shF sb 1 (kf g)) q ^^^ WL.getD ((j + 1) * 16 + q) 0
theorem enc_lit {w f : Nat → UInt8} {WL : List UInt8} {ST : List (List UInt8)} (hw : ∀ q, q < 176 → w q = WL.getD q 0) (h0 : ∀ q, q < 16 → f q ^^^ WL.getD q 0 = kf (ST.getD 0 []) q) (h : ∀ j, j < 10 → ∀ q, q < 16 → eStep WL (ST.getD j []) j q = kf (ST.getD (j + 1) []) q) :
    ∀ j, j ≤ 10 → ∀ q, q < 16 → encS w f j q = kf (ST.getD j []) q
  | 0, _, q, hq => by rw [encS_zero, ← h0 q hq, hw _ (by omega)]; congr 2; omega
  | j + 1, hj, q, hq => by
    have ih := enc_lit hw h0 h j (by omega)
    rw [← h j (by omega) q hq, encS_succ, eStep, hw _ (by omega)]
    by_cases h9 : j + 1 < 10
    · rw [if_pos h9, if_pos h9]
      show mixF _ _ q ^^^ _ = mixF _ _ q ^^^ _
      rw [mixF_congr (shF_congr ih) q hq]
    · rw [if_neg h9, if_neg h9]
      show shF _ _ _ q ^^^ _ = shF _ _ _ q ^^^ _
      rw [shF_congr ih q hq]
theorem encL_lit {key blk : List UInt8} {WL : List UInt8} {ST : List (List UInt8)} (hk : key.length = 16) (hb : blk.length = 16) (h1 : ∀ q, q < 16 → kf key q = WL.getD q 0) (h2 : ∀ q, q < 176 → 16 ≤ q → WL.getD q 0 = wStep WL q)
    (h3 : ∀ q, q < 16 → kf blk q ^^^ WL.getD q 0 = kf (ST.getD 0 []) q) (h4 : ∀ j, j < 10 → ∀ q, q < 16 → eStep WL (ST.getD j []) j q = kf (ST.getD (j + 1) []) q) (h5 : (ST.getD 10 []).length = 16) : encL key blk = ST.getD 10 [] := by
  rw [(encL_len hk hb).1]
  exact (fnB_congr fun q hq => enc_lit (wS_lit h1 h2) h3 h4 10 (Nat.le_refl _) q hq).trans (fnB_kf h5)
def awW : List UInt8 := [0, 1, 2, 3, 4, 5, 6, 7, 8, 9, 10, 11, 12, 13, 14, 15, 214, 170, 116, 253, 210, 175, 114, 250, 218, 166, 120, 241, 214, 171, 118, 254, 182, 146, 207, 11, 100, 61, 189, 241, 190, 155, 197, 0, 104, 48, 179, 254, 182, 255, 116, 78, 210, 194, 201, 191, 108, 89, 12, 191, 4, 105, 191, 65, 71, 247, 247, 188, 149, 53, 62, 3, 249, 108, 50, 188, 253, 5, 141, 253, 60, 170, 163, 232, 169, 159, 157, 235, 80, 243, 175, 87, 173, 246, 34, 170, 94, 57, 15, 125, 247, 166, 146, 150, 167, 85, 61, 193, 10, 163, 31, 107, 20, 249, 112, 26, 227, 95, 226, 140, 68, 10, 223, 77, 78, 169, 192, 38, 71, 67, 135, 53, 164, 28, 101, 185, 224, 22, 186, 244, 174, 191, 122, 210, 84, 153, 50, 209, 240, 133, 87, 104, 16, 147, 237, 156, 190, 44, 151, 78, 19, 17, 29, 127, 227, 148, 74, 23, 243, 7, 167, 139, 77, 43, 48, 197]
def awS : List (List UInt8) := [[0, 16, 32, 48, 64, 80, 96, 112, 128, 144, 160, 176, 192, 208, 224, 240], [137, 216, 16, 232, 133, 90, 206, 104, 45, 24, 67, 216, 203, 18, 143, 228], [73, 21, 89, 143, 85, 229, 215, 160, 218, 202, 148, 250, 31, 10, 99, 247], [250, 99, 106, 40, 37, 179, 57, 201, 64, 102, 138, 49, 87, 36, 77, 23], [36, 114, 64, 35, 105, 102, 179, 250, 110, 210, 117, 50, 136, 66, 91, 108], [200, 22, 119, 188, 155, 122, 201, 59, 37, 2, 121, 146, 176, 38, 25, 150], [198, 47, 225, 9, 247, 94, 237, 195, 204, 121, 57, 93, 132, 249, 207, 93], [209, 135, 108, 15, 121, 196, 48, 10, 180, 85, 148, 173, 214, 111, 244, 31], [253, 227, 186, 210, 5, 229, 208, 215, 53, 71, 150, 78, 241, 254, 55, 241], [189, 110, 124, 61, 242, 181, 119, 158, 11, 97, 33, 110, 139, 16, 182, 137], [105, 196, 224, 216, 106, 123, 4, 48, 216, 205, 183, 128, 112, 180, 197, 90]]
def awK : List UInt8 := [0, 1, 2, 3, 4, 5, 6, 7, 8, 9, 10, 11, 12, 13, 14, 15]
def awB : List UInt8 := [0, 17, 34, 51, 68, 85, 102, 119, 136, 153, 170, 187, 204, 221, 238, 255]
theorem aw_enc : encL awK awB = [105, 196, 224, 216, 106, 123, 4, 48, 216, 205, 183, 128, 112, 180, 197, 90] :=
  encL_lit (WL := awW) (ST := awS) rfl rfl (by decide +kernel) (by decide +kernel) (by decide +kernel) (by decide +kernel) rfl
end Go.Proofs.Ytochjihddnkhcaa.By

namespace Go.Proofs.Ytochjihddnkhcaa.By
open Go.RowKit L A
set_option linter.unusedVariables false
set_option linter.unusedSimpArgs false
attribute [local irreducible] AW AQ AO
theorem awK_eq : AV.ro false 16 (arB 16 fun q => u8 (q : Int)) = roB awK := by
  rw [← roB_fnB]; exact congrArg roB (by decide +kernel)
theorem awB_eq : AV.ro false 16 (arB 16 fun q => u8 (17 * (q : Int))) = roB awB := by
  rw [← roB_fnB]; exact congrArg roB (by decide +kernel)
theorem aw_fn : Sp Try.prog 20 [roB awK, roB awB] [] (Is (.tup [roB [105, 196, 224, 216, 106, 123, 4, 48, 216, 205, 183, 128, 112, 180, 197, 90], .val (.int .i64 0)])) := by
  have h := aesenc_fn awK awB
  rw [aw_enc, show encE awK awB = 0 from rfl] at h
  exact h
set_option maxRecDepth 20000 in
set_option maxHeartbeats 2000000 in
theorem awake06_fn : Sp Try.prog 19 [] [] (Is (.val (.bool true))) := by
  refine Sp.enter Try.func19 rfl _ Try.ntmps19 rfl (fun w0 R0 => ?_)
  refine AW.seq ?_
  refine AW.region ?_
  refine AO.op (O.assign rfl rfl) rfl rfl rfl ?_
  refine AO.nil ?_
  refine AQ.thenN ?_
  refine AW.seq ?_
  refine AW.region ?_
  refine AO.op (O.assign rfl rfl) rfl rfl rfl ?_
  refine AO.op (O.assign rfl rfl) rfl rfl rfl ?_
  refine AO.nil ?_
  refine AQ.thenN ?_
  refine AW.seq ?_
  refine AW.seq ?_
  refine AW.region ?_
  refine AO.op (O.move rfl rfl) rfl rfl rfl ?_
  refine AO.nil ?_
  refine AQ.thenN ?_
  refine AW.block ?_
  refine AW.g ?_
  refine G.nilRow 5 1 ?_
  refine AW.u ?_
  refine AW.g ?_
  refine G.nilRow 5 1 ?_
  refine AW.u ?_
  refine AW.loopK [] (fun nn E H => ∃ (i : Nat) (V : Value) (W : Value), (i ≤ 16) ∧ (V.oneCell' = true) ∧ (W.oneCell' = true) ∧ nn = 16 - i ∧ E = [(1, .val V), (2, .val W), (6, .val (.int .i64 (i : Int)))] ∧ H = [.row V 5 1 i (arB i fun q => u8 (q : Int)), .row W 5 1 i (arB i fun q => u8 (17 * (q : Int)))]) _ (⟨0, _, _, by omega, rfl, rfl, rfl, rfl, rfl⟩) (by repeat (exact envNil)) (by repeat (first | exact envNil | refine envCons rfl ?_)) (by repeat (first | exact subPnil | refine subPcons 0 rfl ?_)) ?_
  rintro nn E H ⟨i, V, W, hi, hV, hW, rfl, rfl, rfl⟩
  dsimp only [List.cons_append, List.nil_append]
  refine AW.seq ?_
  refine AW.region ?_
  refine AO.op (O.lss rfl rfl rfl (by rfl)) rfl rfl rfl ?_
  refine AO.nil ?_
  refine AQ.thenN ?_
  refine AW.seq ?_
  refine AW.split rfl (fun h => ?_) (fun h => ?_) <;> (try simp only [decide_eq_true_eq, decide_eq_false_iff_not, beq_iff_eq, beq_eq_false_iff_ne, bne_iff_ne, bne_eq_false_iff_eq, Bool.not_eq_true', Bool.not_eq_false', Bool.not_eq_true, Bool.not_eq_false, ne_eq, Int.not_lt, Int.not_le, Bool.and_eq_true, Bool.or_eq_true, Bool.or_eq_false_iff, Bool.and_eq_false_imp, strOf_toList, Decidable.not_not] at h)
  · skip
    refine AW.skip ?_
    refine AQ.thenN ?_
    refine AW.seq ?_
    refine AW.block ?_
    refine AW.seq ?_
    refine AW.region ?_
    refine AO.op (O.move rfl rfl) rfl rfl rfl ?_
    refine AO.op (O.assign rfl rfl) rfl rfl rfl ?_
    refine AO.nil ?_
    refine AQ.thenN ?_
    refine AW.region ?_
    refine AO.op (O.move rfl rfl) rfl rfl rfl ?_
    refine AO.op (O.move rfl rfl) rfl rfl rfl ?_
    refine AO.op (O.conv rfl rfl wU8any) rfl rfl rfl ?_
    refine AO.opB (O.buildSlice rfl rfl rfl (by rfl) (by rfl) (by rfl) (by rfl)) rfl rfl rfl ?_
    intro B1
    refine AO.g ?_
    (refine G.freezeSl 0 12 rfl rfl ⟨Nat.le_refl _, by unfold maxLen; omega⟩ ?_)
    refine G.unfull 12 rfl ?_
    refine AO.u ?_
    dsimp only [List.eraseIdx]
    (refine AO.append' (i := 0) rfl rfl rfl rfl (by rfl) (by rfl) rfl rfl rfl (by exact SrcA.ro TyD.ax (by rfl) (Nat.le_of_ble_eq_true rfl)) (by rfl) (by (unfold maxLen; omega)) (by omega) (by (dsimp only [List.set, List.append, List.cons_append, List.nil_append, roB_cells, roI_cells, roO_cells, splice, ofConst, AV.cells, List.map, List.map_cons, List.map_nil, List.take, List.drop, Nat.zero_add, Nat.add_zero, Nat.reduceAdd, Nat.reduceMul, Nat.zero_mul, Value.cells, List.toList_toArray, zerosA, List.replicate, List.flatten, List.append_nil]; done)) (fun _ => by (dsimp only [List.set]; done)) ?_)
    intro V2 hV2
    refine AO.op (O.move rfl rfl) rfl rfl rfl ?_
    refine AO.op (O.move rfl rfl) rfl rfl rfl ?_
    refine AO.op (O.mul rfl rfl rfl (by exact wI64 (by omega))) rfl rfl rfl ?_
    refine AO.op (O.conv rfl rfl wU8any) rfl rfl rfl ?_
    refine AO.opB (O.buildSlice rfl rfl rfl (by rfl) (by rfl) (by rfl) (by rfl)) rfl rfl rfl ?_
    intro B3
    refine AO.g ?_
    (refine G.freezeSl 0 18 rfl rfl ⟨Nat.le_refl _, by unfold maxLen; omega⟩ ?_)
    refine G.unfull 18 rfl ?_
    refine AO.u ?_
    dsimp only [List.eraseIdx]
    (refine AO.append' (i := 1) rfl rfl rfl rfl (by rfl) (by rfl) rfl rfl rfl (by exact SrcA.ro TyD.ax (by rfl) (Nat.le_of_ble_eq_true rfl)) (by rfl) (by (unfold maxLen; omega)) (by omega) (by (dsimp only [List.set, List.append, List.cons_append, List.nil_append, roB_cells, roI_cells, roO_cells, splice, ofConst, AV.cells, List.map, List.map_cons, List.map_nil, List.take, List.drop, Nat.zero_add, Nat.add_zero, Nat.reduceAdd, Nat.reduceMul, Nat.zero_mul, Value.cells, List.toList_toArray, zerosA, List.replicate, List.flatten, List.append_nil]; done)) (fun _ => by (dsimp only [List.set]; done)) ?_)
    intro V4 hV4
    refine AO.op (O.assign rfl rfl) rfl rfl rfl ?_
    refine AO.op (O.assign rfl rfl) rfl rfl rfl ?_
    refine AO.nil ?_
    refine AQ.blockN ?_
    refine AQ.thenN ?_
    refine AW.region ?_
    refine AO.op (O.add rfl rfl rfl (by exact wI64 (by omega))) rfl rfl rfl ?_
    refine AO.op (O.move rfl rfl) rfl rfl rfl ?_
    refine AO.nil ?_
    refine AQ.loopKN _ _ _ (by omega) (⟨i + 1, V2, V4, by omega, hV2, hV4, rfl, rfl, (congrArg (fun xs => [HE.row V2 5 1 (i + 1) xs, HE.row V4 5 1 (i + 1) (arB i (fun q => u8 (17 * (q : Int))) ++ [by8 (u8 (17 * (i : Int)))])]) (arB_snoc (f := fun q => u8 (q : Int)) (n := i) rfl)).trans (congrArg (fun xs => [HE.row V2 5 1 (i + 1) (arB (i + 1) fun q => u8 (q : Int)), HE.row V4 5 1 (i + 1) xs]) (arB_snoc (f := fun q => u8 (17 * (q : Int))) (n := i) rfl))⟩) (by repeat (exact envNil)) (by repeat (first | exact envNil | refine envCons rfl ?_)) (by repeat (first | exact subPnil | refine subPcons 0 rfl ?_))
  · skip
    obtain rfl : i = 16 := by omega
    refine AW.g ?_
    refine G.freezeRow 0 rfl [1] (by repeat (first | exact frNil | refine frCons rfl ?_)) ?_
    refine AW.u ?_
    try dsimp only [List.map, List.eraseIdx, List.cons_append, List.nil_append]
    refine AW.g ?_
    refine G.freezeRow 0 rfl [2] (by repeat (first | exact frNil | refine frCons rfl ?_)) ?_
    refine AW.u ?_
    try dsimp only [List.map, List.eraseIdx, List.cons_append, List.nil_append]
    refine AW.g ?_
    refine G.re 1 (roB awK) (congrArg some awK_eq) ?_
    refine AW.u ?_
    refine AW.g ?_
    refine G.re 2 (roB awB) (congrArg some awB_eq) ?_
    refine AW.u ?_
    refine AW.exit ?_
    refine AQ.thenX ?_
    refine AQ.loopX ?_
    refine AQ.blockX rfl ?_
    refine AQ.thenN ?_
    refine AW.seq ?_
    refine AW.region ?_
    refine AO.op (O.move rfl rfl) rfl rfl rfl ?_
    refine AO.op (O.move rfl rfl) rfl rfl rfl ?_
    refine AO.op (O.call rfl Try.func20 rfl rfl rfl (aw_fn)) rfl rfl rfl ?_
    refine AO.op (O.move rfl rfl) rfl rfl rfl ?_
    refine AO.op (O.extract rfl rfl rfl) rfl rfl rfl ?_
    refine AO.op (O.extract rfl rfl rfl) rfl rfl rfl ?_
    refine AO.op (O.assign rfl rfl) rfl rfl rfl ?_
    refine AO.op (O.assign rfl rfl) rfl rfl rfl ?_
    refine AO.nil ?_
    refine AQ.thenN ?_
    refine AW.seq ?_
    refine AW.region ?_
    refine AO.op (O.move rfl rfl) rfl rfl rfl ?_
    refine AO.op (O.eql rfl rfl rfl (by exact beq_iff_eq.2 (by omega))) rfl rfl rfl ?_
    refine AO.op (O.move rfl rfl) rfl rfl rfl ?_
    refine AO.opG rfl rfl rfl (fun hp => O.move rfl rfl) ?_
    refine AO.opG rfl rfl rfl (fun hp => OpW.force 30 rfl (by exact hp) (O.lenR rfl rfl)) ?_
    refine AO.opG rfl rfl rfl (fun hp => OpW.force 31 rfl (by exact hp) (O.eql rfl rfl rfl (by assumption))) ?_
    refine AO.op (O.pickAnd rfl rfl rfl rfl (fun h => by exact h)) rfl rfl rfl ?_
    refine AO.op (O.move rfl rfl) rfl rfl rfl ?_
    refine AO.opG rfl rfl rfl (fun hp => O.move rfl rfl) ?_
    (refine AO.opG rfl rfl rfl (fun hp => OpW.force 35 rfl (by exact hp) (O.idxR rfl rfl rfl ⟨(by omega), (by (simp only [List.length_take, List.length_drop, List.length_append, List.length_cons, List.length_nil, List.length_set, Nat.zero_add]; omega))⟩)) ?_)
    refine AO.opG rfl rfl rfl (fun hp => OpW.force 36 rfl (by exact hp) (O.loadR rfl rfl (by rfl))) ?_
    refine AO.opG rfl rfl rfl (fun hp => OpW.force 37 rfl (by exact hp) (O.eql rfl rfl rfl (by assumption))) ?_
    refine AO.op (O.pickAnd rfl rfl rfl rfl (fun h => by exact h)) rfl rfl rfl ?_
    refine AO.op (O.move rfl rfl) rfl rfl rfl ?_
    refine AO.opG rfl rfl rfl (fun hp => O.move rfl rfl) ?_
    (refine AO.opG rfl rfl rfl (fun hp => OpW.force 41 rfl (by exact hp) (O.idxR rfl rfl rfl ⟨(by omega), (by (simp only [List.length_take, List.length_drop, List.length_append, List.length_cons, List.length_nil, List.length_set, Nat.zero_add]; omega))⟩)) ?_)
    refine AO.opG rfl rfl rfl (fun hp => OpW.force 42 rfl (by exact hp) (O.loadR rfl rfl (by rfl))) ?_
    refine AO.opG rfl rfl rfl (fun hp => OpW.force 43 rfl (by exact hp) (O.eql rfl rfl rfl (by assumption))) ?_
    refine AO.op (O.pickAnd rfl rfl rfl rfl (fun h => by exact h)) rfl rfl rfl ?_
    refine AO.op (O.move rfl rfl) rfl rfl rfl ?_
    refine AO.opG rfl rfl rfl (fun hp => O.move rfl rfl) ?_
    (refine AO.opG rfl rfl rfl (fun hp => OpW.force 47 rfl (by exact hp) (O.idxR rfl rfl rfl ⟨(by omega), (by (simp only [List.length_take, List.length_drop, List.length_append, List.length_cons, List.length_nil, List.length_set, Nat.zero_add]; omega))⟩)) ?_)
    refine AO.opG rfl rfl rfl (fun hp => OpW.force 48 rfl (by exact hp) (O.loadR rfl rfl (by rfl))) ?_
    refine AO.opG rfl rfl rfl (fun hp => OpW.force 49 rfl (by exact hp) (O.eql rfl rfl rfl (by assumption))) ?_
    refine AO.op (O.pickAnd rfl rfl rfl rfl (fun h => by exact h)) rfl rfl rfl ?_
    refine AO.op (O.assign rfl rfl) rfl rfl rfl ?_
    refine AO.nil ?_
    refine AQ.thenN ?_
    refine AW.ret ?_
    refine AQ.ret1 rfl rfl ⟨_, List.nil_sublist _, .nil⟩ (⟨rfl, rfl⟩)
end Go.Proofs.Ytochjihddnkhcaa.By

namespace Go.Proofs.Ytochjihddnkhcaa.By
open Go.RowKit L A
set_option linter.unusedVariables false
set_option linter.unusedSimpArgs false
attribute [local irreducible] AW AQ AO
def prB (p : List UInt8 × List UInt8) : List AV := [roB p.1, roB p.2]
end Go.Proofs.Ytochjihddnkhcaa.By

namespace Go.Proofs.Ytochjihddnkhcaa.A
open Go.RowKit L
section
variable {Γ : Cx} {P : Program} {E : Env} {H : List HE} {N : Nat} {o : Oper}
theorem RelV.plain {R R' : Nat → Prop} {W W' : World} {x : AV} {u : Value} (hx : ∃ c, x = .val c) (h : RelV R W x u) : RelV R' W' x u := by
  obtain ⟨c, rfl⟩ := hx
  rw [h.val_inv]; exact .val _
theorem RelV.plainT {R R' : Nat → Prop} {W W' : World} {xs : List AV} {u : Value} (hx : ∀ x ∈ xs, ∃ c, x = AV.val c) (h : RelV R W (.tup xs) u) : RelV R' W' (.tup xs) u := by
  cases h with
  | tup _ cs hs hc => exact .tup xs cs hs fun j hj => (hc j hj).plain (hx _ (List.getElem_mem hj))
theorem HE.plainRow {R R' : Nat → Prop} {W : World} {v : Value} {T sz n : Nat} {xs : List AV} (hx : ∀ x ∈ xs, ∃ c, x = AV.val c) (h : HE.ok R W (.row v T sz n xs)) : HE.ok R' W (.row v T sz n xs) := by
  obtain ⟨us, ho, hl, hr⟩ := h
  exact ⟨us, ho, hl, fun j hj => (hr j hj).plain (hx _ (List.getElem_mem hj))⟩
theorem vals_arB (n : Nat) (f : Nat → UInt8) : ∀ x ∈ arB n f, ∃ c, x = AV.val c := fun x hx => by
  rw [arB_eq] at hx
  obtain ⟨q, _, rfl⟩ := List.mem_map.1 hx
  exact ⟨_, rfl⟩
def PlainP (Post : AV → List HE → Prop) : Prop := ∀ r Hn, Post r Hn → (∀ (R R' : Nat → Prop) W u, RelV R W r u → RelV R' W r u) ∧ ∀ e ∈ Hn, ∀ (R R' : Nat → Prop) W, HE.ok R W e → HE.ok R' W e
theorem O.callLP {f : FuncId} {xs : List Operand} {ats : Array TypeId} {args args' : List AV} {v : Value} {T sz n : Nat} {rs : List AV} {fn : Func} {Post : AV → List HE → Prop} (ho : o.op = .call { callee := .value (.func f), args := xs.toArray, argTypes := ats }) (hfn : P.funcs[f]? = some fn) (hn : (fn.name == "runtime.NumGoroutine") = false) (hb : fn.body.isNone = false)
    (hx : evs E xs = some args) (hm : HE.row v T sz n rs ∈ H) (h : Sp P f args' [] Post) (hp : PlainP Post) (hl : LendL v (.ro false n rs) args args') : OpW P N o E H Post := fun R a W h0 h2 h3 ha => by
  have hR : ∀ b, R b → R b ∨ (HE.row v T sz n rs).foot b := fun _ h => .inl h
  have hlt : ∀ b, R b ∨ (HE.row v T sz n rs).foot b → b < W.heap.size := by
    rintro b (hb | hb)
    · exact h0 b hb
    · exact HE.ok_lt (h2 _ hm) hb
  unfold Oper.wp
  rw [run_callF ho hfn hn hb, List.map_toArray]
  have hc := h W _ (xs.map a.eval) hlt (fun e he => by cases he) .nil (hl.rel hR (row_ro (h2 _ hm)) (ha.evs hx))
  refine Calls.mono hc ?_
  rintro e W' ⟨u, r, H', R', rfl, hpo, hs, hv⟩
  have p := fn_post1 hs hv hlt
  obtain ⟨q1, q2⟩ := hp r H' hpo
  refine ⟨u, r, H', R, rfl, hpo, p.ext, fun _ h => h, fun _ h => .inl h, q1 _ _ _ _ hv, fun e he => ⟨q2 e he _ _ _ (p.ok e he).1, fun b hb => ?_⟩, p.disj⟩
  have := (p.ok e he).2 b hb
  exact ⟨this.1, fun hr => by have := h0 b hr; omega⟩
end
end Go.Proofs.Ytochjihddnkhcaa.A

namespace Go.Proofs.Ytochjihddnkhcaa.By
open Go.RowKit L A
set_option linter.unusedVariables false
set_option maxRecDepth 20000
set_option linter.unusedSimpArgs false
attribute [local irreducible] AW AQ AO
def cvB (key nonce : List UInt8) (tag : Int) : Bool := (key.length : Int) == 16 && decide (7 ≤ (nonce.length : Int)) && decide ((nonce.length : Int) ≤ 13) && decide (4 ≤ tag) && decide (tag ≤ 16) && tag.tmod 2 == 0
def callsN (a p : Int) : Int := if a < 0 ∨ p < 0 ∨ 4096 < a ∨ 4096 < p then 0 else 2 + (p + 15) / 16 * 2 + (if 0 < a then (a + 2 + 15) / 16 else 0)
/-! blocks -/
def blkF (first : UInt8) (nonce : List UInt8) (n : Int) (q : Nat) : UInt8 := if q = 0 then first else if q ≤ nonce.length then kf nonce (q - 1) else u8 (n / 256 ^ (15 - q))
def b0F (first : UInt8) (nonce : List UInt8) (q : Nat) : UInt8 := if q = 0 then first else if q ≤ nonce.length then kf nonce (q - 1) else 0
def bI (first : UInt8) (nonce : List UInt8) (n : Int) (i q : Nat) : UInt8 := if i < q then blkF first nonce n q else b0F first nonce q
end Go.Proofs.Ytochjihddnkhcaa.By

namespace Go.Proofs.Ytochjihddnkhcaa.By
open Go.RowKit L A
set_option linter.unusedVariables false
set_option maxRecDepth 20000
set_option linter.unusedSimpArgs false
attribute [local irreducible] AW AQ AO
/-- What a list of bytes makes of a value: sixteen at a time. -/
def absorb (w : Nat → UInt8) (x : Nat → UInt8) (l : List UInt8) : Nat → UInt8 :=
  if h : l = [] then x else absorb w (enc w fun q => x q ^^^ kf l q) (l.drop 16)
termination_by l.length
decreasing_by
  have : 0 < l.length := List.length_pos_iff.2 h
  simp; omega
end Go.Proofs.Ytochjihddnkhcaa.By

namespace Go.Proofs.Ytochjihddnkhcaa.By
open Go.RowKit L A
set_option linter.unusedVariables false
set_option maxRecDepth 20000
set_option linter.unusedSimpArgs false
attribute [local irreducible] AW AQ AO
abbrev takeV (w : Nat → UInt8) (b : Nat) : AV := .fn (.func 63) [pt b, .rp [.rp (cipA w) 0] 0]
abbrev xB (b : Nat) (x : Nat → UInt8) : HE := .blk b 55 16 (arB 16 x)
def fstB (aad nonce : List UInt8) (tag : Int) : UInt8 := u8 (8 * (tag / 2 - 1) + 14 - (nonce.length : Int) + (if aad = [] then 0 else 64))
def headA (aad : List UInt8) : List UInt8 := u8 ((aad.length : Int) / 256) :: u8 (aad.length : Int) :: aad
def macF (w : Nat → UInt8) (nonce aad plain : List UInt8) (tag : Int) : Nat → UInt8 :=
  absorb w (if aad = [] then absorb w (fun _ => 0) (fnB 16 (blkF (fstB aad nonce tag) nonce plain.length)) else absorb w (absorb w (fun _ => 0) (fnB 16 (blkF (fstB aad nonce tag) nonce plain.length))) (headA aad)) plain
end Go.Proofs.Ytochjihddnkhcaa.By

namespace Go.Proofs.Ytochjihddnkhcaa.A
open Go.RowKit L
section
variable {Γ : Cx} {P : Program} {E : Env} {H : List HE}
theorem AQ.ret2G {fn : Func} {Post : AV → List HE → Prop} {x y : ResultVar} {p q : AV} {H' : List HE} (hr : fn.results = #[x, y]) (h1 : ResAt Γ P E H x p) (h2 : ResAt Γ P E H y q)
    (hH : ∃ H1, H1.Sublist H ∧ H'.Perm H1) (hp : Post (.tup [p, q]) H') : AQ Γ (FnQ Γ P fn Post) .ret E H := fun R a W hs ha => by
  obtain ⟨H1, k1, k2⟩ := hH
  obtain ⟨u1, e1, g1⟩ := h1 R a W hs ha
  obtain ⟨u2, e2, g2⟩ := h2 R a W hs ha
  refine ⟨ha.defers, .tuple #[u1, u2], ?_, _, _, H', R, rfl, hp, ?_, RelL.toTup (us := [u1, u2]) (RelL.cons g1 (RelL.cons g2 RelL.nil))⟩
  · rw [results_eq, hr]
    simp [e1, e2]
  · have := (hs.sub k1).perm k2
    exact ⟨this.mods, this.rlt, this.rsub, this.rnew, this.ok, this.own, this.disj⟩
end
end Go.Proofs.Ytochjihddnkhcaa.A
namespace Go.Proofs.Ytochjihddnkhcaa.By
open Go.RowKit L A
set_option linter.unusedVariables false
set_option maxRecDepth 20000
set_option linter.unusedSimpArgs false
attribute [local irreducible] AW AQ AO
def strF (w : Nat → UInt8) (nonce text : List UInt8) (i : Nat) : UInt8 := kf text i ^^^ enc w (blkF (u8 (14 - (nonce.length : Int))) nonce (((i / 16 : Nat) : Int) + 1)) (i % 16)
def strP (w : Nat → UInt8) (nonce text : List UInt8) (k i : Nat) : UInt8 := if i < k then strF w nonce text i else kf text i
def tagF (w : Nat → UInt8) (nonce : List UInt8) (tg : Nat → UInt8) (q : Nat) : UInt8 := tg q ^^^ enc w (blkF (u8 (14 - (nonce.length : Int))) nonce 0) q
end Go.Proofs.Ytochjihddnkhcaa.By

namespace Go.Proofs.Ytochjihddnkhcaa.By
open Go.RowKit L A
set_option linter.unusedVariables false
set_option maxRecDepth 20000
set_option linter.unusedSimpArgs false
attribute [local irreducible] AW AQ AO
abbrev RowE (T n : Nat) (g : Nat → UInt8) : AV → List HE → Prop := fun r Hn => ∃ V : Value, V.oneCell' = true ∧ r = .tup [.val V, .val (.int .i64 0)] ∧ Hn = [.row V T 1 n (arB n g)]
theorem rowE_plain (T n : Nat) (g : Nat → UInt8) : PlainP (RowE T n g) := by
  rintro r Hn ⟨V, _, rfl, rfl⟩
  refine ⟨fun R R' W u h => h.plainT (fun x hx => ?_), fun e he R R' W h => ?_⟩
  · simp only [List.mem_cons, List.not_mem_nil, or_false] at hx
    rcases hx with rfl | rfl <;> exact ⟨_, rfl⟩
  · obtain rfl : e = _ := List.mem_singleton.1 he
    exact HE.plainRow (vals_arB _ _) h
set_option maxRecDepth 20000 in
set_option maxHeartbeats 4000000 in
theorem aesencR_fn (k f : Nat → UInt8) : Sp Try.prog 20 [.ro false 16 (arB 16 k), .ro false 16 (arB 16 f)] [] (RowE 55 16 (enc (wS k) f)) := by
  refine Sp.enter Try.func20 rfl _ Try.ntmps20 rfl (fun w0 R0 => ?_)
  refine AW.seq ?_
  refine AW.region ?_
  refine AO.op (O.assign rfl rfl) rfl rfl rfl ?_
  refine AO.op (O.assign rfl rfl) rfl rfl rfl ?_
  refine AO.nil ?_
  refine AQ.thenN ?_
  refine AW.seq ?_
  refine AW.seq ?_
  refine AW.region ?_
  refine AO.op (O.move rfl rfl) rfl rfl rfl ?_
  refine AO.op (O.lenR rfl rfl) rfl rfl rfl ?_
  refine AO.op (O.neq rfl rfl rfl (by exact bne_eq_false_iff_eq.2 (by omega))) rfl rfl rfl ?_
  refine AO.op (O.move rfl rfl) rfl rfl rfl ?_
  refine AO.opG rfl rfl rfl (fun hp => O.move rfl rfl) ?_
  refine AO.opG rfl rfl rfl (fun hp => OpW.force 11 rfl (by exact hp) (O.lenR rfl rfl)) ?_
  refine AO.opG rfl rfl rfl (fun hp => OpW.force 12 rfl (by exact hp) (O.neq rfl rfl rfl (by exact bne_eq_false_iff_eq.2 (by omega)))) ?_
  refine AO.op (O.pickOr rfl rfl rfl rfl (fun h => by exact congrArg (fun b => !b) h)) rfl rfl rfl ?_
  refine AO.nil ?_
  refine AQ.thenN ?_
  refine AW.split rfl (fun h => ?_) (fun h => ?_) <;> (try simp only [decide_eq_true_eq, decide_eq_false_iff_not, beq_iff_eq, beq_eq_false_iff_ne, bne_iff_ne, bne_eq_false_iff_eq, Bool.not_eq_true', Bool.not_eq_false', Bool.not_eq_true, Bool.not_eq_false, ne_eq, Int.not_lt, Int.not_le, Bool.and_eq_true, Bool.or_eq_true, Bool.or_eq_false_iff, Bool.and_eq_false_imp, strOf_toList, Decidable.not_not] at h)
  · skip
    exact absurd h (by simp)
  · skip
    refine AW.skip ?_
    refine AQ.thenN ?_
    refine AW.seq ?_
    refine AW.regionA _ (Al.mk' (i := 6) (d := 6) (T := 55) _ rfl rfl rfl rfl rfl (by (dsimp only [List.set, List.append, List.cons_append, List.nil_append, splice, ofConst, AV.cells, List.map, List.map_cons, List.map_nil, List.take, List.drop, Nat.zero_add, Nat.add_zero, Nat.reduceAdd, Nat.reduceMul, Nat.zero_mul, Value.cells, List.toList_toArray, zerosA, List.replicate, List.flatten, List.append_nil]; done)) (by rfl)) [(0, false), (2, false), (3, false), (4, false), (1, true), (5, true), (6, true), (7, true)] (by kernel_rfl) (by kernel_rfl) (by exact splitNil) ?_
    dsimp only [List.eraseIdx]
    refine AN.op rfl (O.move rfl rfl) rfl rfl rfl ?_
    refine AN.op rfl (O.move rfl rfl) rfl rfl rfl ?_
    refine AN.op rfl (O.toArr rfl rfl (by omega) (by omega)) rfl rfl rfl ?_
    refine AN.op rfl (O.loadRK rfl rfl (by exact List.take_of_length_le (Nat.le_of_eq (arB_len _ _))) (by exact arB_len _ _)) rfl rfl rfl ?_
    refine AN.main _ rfl rfl (fun w0 R0 => ?_)
    refine AO.opB (O.call rfl Try.func40 rfl rfl rfl (aesnew_fn _)) rfl rfl rfl ?_
    intro B1
    refine AM.ok ?_
    dsimp only [putE]
    refine AN.main _ rfl rfl (fun w0 R0 => ?_)
    (refine AO.op (O.callLB rfl Try.func41 rfl rfl rfl (by repeat (exact List.Mem.head _)) (block_fn _ _) (plain_arB _ _) (by (repeat (first | exact LendB.nil | refine LendB.lend ?_ | refine LendB.same ?_)); done)) rfl rfl rfl ?_)
    refine AM.ok ?_
    dsimp only [putE]
    refine AN.box rfl ?_
    intro B2
    dsimp only [Al.he]
    refine AN.main _ rfl rfl (fun w0 R0 => ?_)
    (refine AO.store (i := 0) rfl rfl rfl rfl rfl rfl (by exact arB_one _ _) (by exact arB_len _ _) (by rfl) (by exact splice_arB rfl) (by (dsimp only [List.set, List.append, List.cons_append, List.nil_append, splice, ofConst, AV.cells, List.map, List.map_cons, List.map_nil, List.take, List.drop, Nat.zero_add, Nat.add_zero, Nat.reduceAdd, Nat.reduceMul, Nat.zero_mul, Value.cells, List.toList_toArray, zerosA, List.replicate, List.flatten, List.append_nil]; done)) ?_)
    refine AM.okN ?_
    dsimp only [putE]
    refine AN.nil ?_
    dsimp only [List.cons_append, List.nil_append]
    refine AQ.thenN ?_
    refine AW.seq ?_
    refine AW.region ?_
    refine AO.op (O.sliceArrK (p := 0) rfl rfl rfl rfl (by rfl) (by rfl) ⟨by omega, by omega⟩ (by omega)) rfl rfl rfl ?_
    refine AO.op (O.assign rfl rfl) rfl rfl rfl ?_
    refine AO.op (O.assign rfl rfl) rfl rfl rfl ?_
    refine AO.nil ?_
    refine AQ.thenN ?_
    refine AW.ret ?_
    refine AQ.g ?_
    refine G.closeRow (b := B2) (sz := 1) (n := 16) (cap := 16) 0 rfl (arB_len _ _) rfl (Nat.le_refl _) (by (unfold maxLen; omega)) ?_
    refine AQ.u ?_
    dsimp only [List.set]
    refine AQ.ret2G rfl (ResAt.tmp rfl) (ResAt.tmp rfl) ⟨_, List.Sublist.cons_cons _ (List.nil_sublist _), .refl _⟩ ⟨_, rfl, rfl, rfl⟩
set_option maxRecDepth 20000 in
set_option maxHeartbeats 4000000 in
theorem aesexpR_fn (k : Nat → UInt8) : Sp Try.prog 17 [.ro false 16 (arB 16 k)] [] (RowE 5 176 (wS k)) := by
  refine Sp.enter Try.func17 rfl _ Try.ntmps17 rfl (fun w0 R0 => ?_)
  refine AW.seq ?_
  refine AW.region ?_
  refine AO.op (O.assign rfl rfl) rfl rfl rfl ?_
  refine AO.op (O.assign rfl rfl) rfl rfl rfl ?_
  refine AO.nil ?_
  refine AQ.thenN ?_
  refine AW.seq ?_
  refine AW.seq ?_
  refine AW.region ?_
  refine AO.op (O.move rfl rfl) rfl rfl rfl ?_
  refine AO.op (O.lenR rfl rfl) rfl rfl rfl ?_
  refine AO.op (O.neq rfl rfl rfl (by exact bne_eq_false_iff_eq.2 (by omega))) rfl rfl rfl ?_
  refine AO.nil ?_
  refine AQ.thenN ?_
  refine AW.split rfl (fun h => ?_) (fun h => ?_) <;> (try simp only [decide_eq_true_eq, decide_eq_false_iff_not, beq_iff_eq, beq_eq_false_iff_ne, bne_iff_ne, bne_eq_false_iff_eq, Bool.not_eq_true', Bool.not_eq_false', Bool.not_eq_true, Bool.not_eq_false, ne_eq, Int.not_lt, Int.not_le, Bool.and_eq_true, Bool.or_eq_true, Bool.or_eq_false_iff, Bool.and_eq_false_imp, strOf_toList, Decidable.not_not] at h)
  · skip
    exact absurd h (by simp)
  · skip
    obtain ⟨w, hwd⟩ : ∃ w, w = wS k := ⟨_, rfl⟩
    refine AW.skip ?_
    refine AQ.thenN ?_
    refine AW.seq ?_
    refine AW.region ?_
    refine AO.op (O.call rfl Try.func36 rfl rfl rfl (subs_fn)) rfl rfl rfl ?_
    refine AO.opB (O.alloc rfl (by exact zeros_arB _) (by exact List.length_replicate)) rfl rfl rfl ?_
    intro B1
    (refine AO.store (i := 0) rfl rfl rfl rfl rfl rfl (by exact arB_one _ _) (by exact arB_len _ _) (by exact Nat.ble_eq_true_of_le (Nat.le_of_eq (arB_len _ _).symm)) (by exact splice_arB rfl) (by (dsimp only [List.set, List.append, List.cons_append, List.nil_append, splice, ofConst, AV.cells, List.map, List.map_cons, List.map_nil, List.take, List.drop, Nat.zero_add, Nat.add_zero, Nat.reduceAdd, Nat.reduceMul, Nat.zero_mul, Value.cells, List.toList_toArray, zerosA, List.replicate, List.flatten, List.append_nil]; done)) ?_)
    refine AO.nil ?_
    refine AQ.thenN ?_
    refine AW.seq ?_
    refine AW.region ?_
    refine AO.op (O.assign rfl rfl) rfl rfl rfl ?_
    refine AO.nil ?_
    refine AQ.thenN ?_
    refine AW.seq ?_
    refine AW.seq ?_
    refine AW.region ?_
    refine AO.op (O.move rfl rfl) rfl rfl rfl ?_
    (refine AO.op (O.callLB rfl Try.func37 rfl rfl rfl (by repeat (exact List.Mem.head _)) (sched_fn _ _ box_to) (plain_arB _ _) (by (repeat (first | exact LendB.nil | refine LendB.lend ?_ | refine LendB.same ?_)); done)) rfl rfl rfl ?_)
    refine AO.op (O.move rfl rfl) rfl rfl rfl ?_
    refine AO.nil ?_
    refine AQ.thenN ?_
    refine AW.block ?_
    rw [← hwd]
    refine AW.g ?_
    refine G.nilRow 5 1 ?_
    refine AW.u ?_
    have hseg : ∀ i, i < 11 → ((arB 176 w).drop (i * 16)).take 16 = arB 16 fun q => w (i * 16 + q) := fun i hi => arB_dt (by omega)
    refine AW.loopK [(13, _)] (fun nn E H => ∃ (i : Nat) (V : Value), (i ≤ 11) ∧ (V.oneCell' = true) ∧ nn = 11 - i ∧ E = [(5, .val V), (14, .val (.int .i64 (i : Int)))] ∧ H = [.row V 5 1 (16 * i) (arB (16 * i) w)]) _ (⟨0, .slice none 0 0, by omega, rfl, rfl, rfl, rfl⟩) (by repeat (first | exact envNil | refine envCons rfl ?_)) (by repeat (first | exact envNil | refine envCons rfl ?_)) (by repeat (first | exact subPnil | refine subPcons 0 rfl ?_)) ?_
    rintro nn E H ⟨i, V, hi, hV, rfl, rfl, rfl⟩
    dsimp only [List.cons_append, List.nil_append]
    refine AW.seq ?_
    refine AW.region ?_
    refine AO.op (O.lss rfl rfl rfl (by rfl)) rfl rfl rfl ?_
    refine AO.nil ?_
    refine AQ.thenN ?_
    refine AW.seq ?_
    refine AW.split rfl (fun h15 => ?_) (fun h15 => ?_) <;> (try simp only [decide_eq_true_eq, decide_eq_false_iff_not, beq_iff_eq, beq_eq_false_iff_ne, bne_iff_ne, bne_eq_false_iff_eq, Bool.not_eq_true', Bool.not_eq_false', Bool.not_eq_true, Bool.not_eq_false, ne_eq, Int.not_lt, Int.not_le, Bool.and_eq_true, Bool.or_eq_true, Bool.or_eq_false_iff, Bool.and_eq_false_imp, strOf_toList, Decidable.not_not] at h15)
    · skip
      refine AW.skip ?_
      refine AQ.thenN ?_
      refine AW.seq ?_
      refine AW.block ?_
      refine AW.seq ?_
      refine AW.region ?_
      refine AO.op (O.indexK rfl rfl rfl ⟨(by omega), (by omega)⟩ (by exact hseg i (by omega)) (by exact arB_len _ _)) rfl rfl rfl ?_
      (refine AO.opB (O.alloc rfl (by (dsimp only [List.set, List.append, List.cons_append, List.nil_append, splice, ofConst, AV.cells, List.map, List.map_cons, List.map_nil, List.take, List.drop, Nat.zero_add, Nat.add_zero, Nat.reduceAdd, Nat.reduceMul, Nat.zero_mul, Value.cells, List.toList_toArray, zerosA, List.replicate, List.flatten, List.append_nil]; done)) (by rfl)) rfl rfl rfl ?_)
      intro B2
      (refine AO.store (i := 0) rfl rfl rfl rfl rfl rfl (by exact arB_one _ _) (by exact arB_len _ _) (by rfl) (by exact splice_arB rfl) (by (dsimp only [List.set, List.append, List.cons_append, List.nil_append, splice, ofConst, AV.cells, List.map, List.map_cons, List.map_nil, List.take, List.drop, Nat.zero_add, Nat.add_zero, Nat.reduceAdd, Nat.reduceMul, Nat.zero_mul, Value.cells, List.toList_toArray, zerosA, List.replicate, List.flatten, List.append_nil]; done)) ?_)
      refine AO.nil ?_
      refine AQ.thenN ?_
      refine AW.region ?_
      refine AO.op (O.move rfl rfl) rfl rfl rfl ?_
      refine AO.op (O.sliceArrK (p := 0) rfl rfl rfl rfl (by rfl) (by rfl) ⟨by omega, by omega⟩ (by omega)) rfl rfl rfl ?_
      (refine AO.append' (i := 1) rfl rfl rfl rfl (by rfl) (by rfl) rfl rfl rfl (by exact SrcA.blk TyD.ax (by repeat (exact List.Mem.head _)) (by (dsimp only [List.set, List.append, List.cons_append, List.nil_append, splice, ofConst, AV.cells, List.map, List.map_cons, List.map_nil, List.take, List.drop, Nat.zero_add, Nat.add_zero, Nat.reduceAdd, Nat.reduceMul, Nat.zero_mul, Value.cells, List.toList_toArray, zerosA, List.replicate, List.flatten, List.append_nil]; done)) (by rfl)) (by rfl) (by (unfold maxLen; omega)) (by omega) (by (dsimp only [List.set, List.append, List.cons_append, List.nil_append, splice, ofConst, AV.cells, List.map, List.map_cons, List.map_nil, List.take, List.drop, Nat.zero_add, Nat.add_zero, Nat.reduceAdd, Nat.reduceMul, Nat.zero_mul, Value.cells, List.toList_toArray, zerosA, List.replicate, List.flatten, List.append_nil]; done)) (fun _ => by (dsimp only [List.set]; done)) ?_)
      intro V3 hV3
      refine AO.op (O.assign rfl rfl) rfl rfl rfl ?_
      refine AO.nil ?_
      refine AQ.blockN ?_
      refine AQ.thenN ?_
      refine AW.region ?_
      refine AO.op (O.add rfl rfl rfl (by exact wI64 (by omega))) rfl rfl rfl ?_
      refine AO.op (O.move rfl rfl) rfl rfl rfl ?_
      refine AO.nil ?_
      have e : arB (16 * i) w ++ List.take ((16 - 0) * 1) (arB 16 fun q => w (i * 16 + q)) = arB (16 * i + 16) w := by
        rw [List.take_of_length_le (by rw [arB_len]; omega), arB_app]
        refine arB_congr fun q hq => ?_
        by_cases h : q < 16 * i
        · rw [if_pos h]
        · rw [if_neg h, show i * 16 + (q - 16 * i) = q by omega]
      rw [e]
      refine AQ.loopKN _ _ _ (by omega) (⟨i + 1, V3, by omega, hV3, rfl, rfl, rfl⟩) (by repeat (first | exact envNil | refine envCons rfl ?_)) (by repeat (first | exact envNil | refine envCons rfl ?_)) (by repeat (first | exact subPnil | refine subPcons 1 rfl ?_))
    · skip
      obtain rfl : i = 11 := by omega
      refine AW.exit ?_
      refine AQ.thenX ?_
      refine AQ.loopX ?_
      refine AQ.blockX rfl ?_
      refine AQ.thenN ?_
      refine AW.seq ?_
      refine AW.region ?_
      refine AO.op (O.move rfl rfl) rfl rfl rfl ?_
      refine AO.op (O.assign rfl rfl) rfl rfl rfl ?_
      refine AO.op (O.assign rfl rfl) rfl rfl rfl ?_
      refine AO.nil ?_
      refine AQ.thenN ?_
      refine AW.ret ?_
      refine AQ.ret2G rfl (ResAt.tmp rfl) (ResAt.tmp rfl) ⟨_, List.Sublist.cons_cons _ (List.nil_sublist _), .refl _⟩ ⟨V, hV, rfl, rfl⟩
end Go.Proofs.Ytochjihddnkhcaa.By

namespace Go.Proofs.Ytochjihddnkhcaa.A
open Go.RowKit L
section
variable {Γ : Cx} {P : Program} {E : Env} {H : List HE} {N : Nat} {o : Oper}
inductive Lend2 (v : Value) (y : AV) (v2 : Value) (y2 : AV) : List AV → List AV → Prop
  | nil : Lend2 v y v2 y2 [] []
  | same {a : AV} {r r' : List AV} : Lend2 v y v2 y2 r r' → Lend2 v y v2 y2 (a :: r) (a :: r')
  | one {r r' : List AV} : Lend2 v y v2 y2 r r' → Lend2 v y v2 y2 (.val v :: r) (y :: r')
  | two {r r' : List AV} : Lend2 v y v2 y2 r r' → Lend2 v y v2 y2 (.val v2 :: r) (y2 :: r')
theorem Lend2.mid {v : Value} {y : AV} {v2 : Value} {y2 : AV} {a c : List AV} (h : Lend2 v y v2 y2 a c) : ∃ b, LendL v y a b ∧ LendL v2 y2 b c := by
  induction h with
  | nil => exact ⟨[], .nil, .nil⟩
  | same _ ih => obtain ⟨b, h1, h2⟩ := ih; exact ⟨_ :: b, .same h1, .same h2⟩
  | one _ ih => obtain ⟨b, h1, h2⟩ := ih; exact ⟨_ :: b, .lend h1, .same h2⟩
  | two _ ih => obtain ⟨b, h1, h2⟩ := ih; exact ⟨_ :: b, .same h1, .lend h2⟩
theorem O.callLP2 {f : FuncId} {xs : List Operand} {ats : Array TypeId} {args args2 : List AV} {v v2 : Value} {T sz n T2 sz2 n2 : Nat} {rs rs2 : List AV} {fn : Func} {Post : AV → List HE → Prop} (ho : o.op = .call { callee := .value (.func f), args := xs.toArray, argTypes := ats }) (hfn : P.funcs[f]? = some fn) (hn : (fn.name == "runtime.NumGoroutine") = false) (hb : fn.body.isNone = false)
    (hx : evs E xs = some args) (i j : Nat) (hm : H[i]? = some (HE.row v T sz n rs)) (hm2 : H[j]? = some (HE.row v2 T2 sz2 n2 rs2)) (h : Sp P f args2 [] Post) (hp : PlainP Post) (hl0 : Lend2 v (.ro false n rs) v2 (.ro false n2 rs2) args args2) : OpW P N o E H Post := fun R a W h0 h2 h3 ha => by
  obtain ⟨args', hl, hl2⟩ := hl0.mid
  have m1 := List.mem_of_getElem? hm
  have m2 := List.mem_of_getElem? hm2
  have hlt : ∀ b, (R b ∨ (HE.row v T sz n rs).foot b) ∨ (HE.row v2 T2 sz2 n2 rs2).foot b → b < W.heap.size := by
    rintro b ((hb | hb) | hb)
    · exact h0 b hb
    · exact HE.ok_lt (h2 _ m1) hb
    · exact HE.ok_lt (h2 _ m2) hb
  unfold Oper.wp
  rw [run_callF ho hfn hn hb, List.map_toArray]
  have r1 := hl.rel (R1 := fun b => R b ∨ (HE.row v T sz n rs).foot b) (fun _ h => .inl h) (row_ro (h2 _ m1)) (ha.evs hx)
  have r2 := hl2.rel (R1 := fun b => (R b ∨ (HE.row v T sz n rs).foot b) ∨ (HE.row v2 T2 sz2 n2 rs2).foot b) (fun _ h => .inl h) ((row_ro (h2 _ m2)).mono (fun b hb => hb.elim (fun h => .inl (.inl h)) .inr) (fun _ _ => rfl)) r1
  have hc := h W _ (xs.map a.eval) hlt (fun e he => by cases he) .nil r2
  refine Calls.mono hc ?_
  rintro e W' ⟨u, r, H', R', rfl, hpo, hs, hv⟩
  have p := fn_post1 hs hv hlt
  obtain ⟨q1, q2⟩ := hp r H' hpo
  refine ⟨u, r, H', R, rfl, hpo, p.ext, fun _ h => h, fun _ h => .inl h, q1 _ _ _ _ hv, fun e he => ⟨q2 e he _ _ _ (p.ok e he).1, fun b hb => ?_⟩, p.disj⟩
  have := (p.ok e he).2 b hb
  exact ⟨this.1, fun hr => by have := h0 b hr; omega⟩
end
end Go.Proofs.Ytochjihddnkhcaa.A

namespace Go.Proofs.Ytochjihddnkhcaa.By
open Go.RowKit L A
set_option linter.unusedVariables false
set_option maxRecDepth 20000
set_option linter.unusedSimpArgs false
attribute [local irreducible] AW AQ AO
theorem bit_ne {z : Int} (h0 : 0 ≤ z) (h1 : z < 8) : u8 (1 * 2 ^ min z.toNat IntKind.u8.bits) ≠ 0 := by
  obtain ⟨n, rfl⟩ : ∃ n : Nat, z = (n : Int) := ⟨z.toNat, by omega⟩
  have h2 : n < 8 := by omega
  match n, h2 with
  | 0, _ | 1, _ | 2, _ | 3, _ | 4, _ | 5, _ | 6, _ | 7, _ => decide
theorem xor_ne {a x : UInt8} (h : x ≠ 0) : a ≠ a ^^^ x := fun e => h (by
  have : a ^^^ a = a ^^^ (a ^^^ x) := by rw [← e]
  rwa [UInt8.xor_self, ← UInt8.xor_assoc, UInt8.xor_self, UInt8.zero_xor, eq_comm] at this)
theorem fnB_at {n : Nat} {f g : Nat → UInt8} (h : fnB n f = fnB n g) {q : Nat} (hq : q < n) : f q = g q := by
  have := congrArg (fun l => l[q]?) h
  simpa [fnB, hq] using this
theorem enc_ne {w f : Nat → UInt8} {i : Nat} {x : UInt8} (hi : i < 16) (hx : x ≠ 0) : fnB 16 (enc w f) ≠ fnB 16 (enc w fun q => if q = i then f i ^^^ x else f q) := fun h => by
  have h1 : ∀ q, q < 16 → enc w f q = enc w (fun q => if q = i then f i ^^^ x else f q) q := fun q hq => fnB_at h hq
  have h2 := dec_enc w f hi
  have h3 := dec_enc w (fun q => if q = i then f i ^^^ x else f q) hi
  have h4 : dec w (enc w f) i = dec w (enc w (fun q => if q = i then f i ^^^ x else f q)) i := congrArg (fun z => z ^^^ w (0 * 16 + i)) (decS_congr (w := w) h1 10 i hi)
  rw [h2, h3, if_pos rfl] at h4
  exact xor_ne hx h4
theorem key_ne {f : Nat → UInt8} {i : Nat} {x : UInt8} (hi : i < 16) (hx : x ≠ 0) : fnB 176 (wS fun q => if q = i then f i ^^^ x else f q) ≠ fnB 176 (wS f) := fun h => by
  have := fnB_at h (show i < 176 by omega)
  rw [wS_key hi, wS_key hi, if_pos rfl] at this
  exact xor_ne hx this.symm
theorem key_take (f : Nat → UInt8) : (fnB 176 (wS f)).take 16 = fnB 16 f := by
  have : fnB 16 f = fnB 16 (wS f) := fnB_congr fun q hq => (wS_key hq).symm
  rw [this]
  unfold fnB
  rw [← List.map_take, List.take_range]; rfl
set_option maxHeartbeats 4000000 in
theorem lawBits_fn (n m k : Int) : Sp Try.prog 4 [.val (.int .i64 n), .val (.int .i64 m), .val (.int .i64 k)] [] (Is (.val (.bool true))) := by
  refine Sp.enter Try.func4 rfl _ Try.ntmps4 rfl (fun w0 R0 => ?_)
  have hi1 : 0 ≤ IntKind.i64.wrap (k.tdiv 128) % 16 ∧ IntKind.i64.wrap (k.tdiv 128) % 16 < 16 := by omega
  have hi2 : 0 ≤ k % 16 ∧ k % 16 < 16 := by omega
  obtain ⟨L9, hL9⟩ : ∃ L, L = fnB 16 (enc (wS (someF n)) (someF m)) := ⟨_, rfl⟩
  have hl9 : L9.length = 16 := by rw [hL9]; exact fnB_len _ _
  obtain ⟨L11, hL11⟩ : ∃ L, L = fnB 16 (enc (wS (someF n)) (fun q => if q = (IntKind.i64.wrap (k.tdiv 128) % 16).toNat then someF m (IntKind.i64.wrap (k.tdiv 128) % 16).toNat ^^^ u8 (1 * 2 ^ min (IntKind.i64.wrap (k.tdiv 2048) % 8).toNat IntKind.u8.bits) else someF m q)) := ⟨_, rfl⟩
  have hl11 : L11.length = 16 := by rw [hL11]; exact fnB_len _ _
  obtain ⟨L13, hL13⟩ : ∃ L, L = fnB 176 (wS (someF n)) := ⟨_, rfl⟩
  have hl13 : L13.length = 176 := by rw [hL13]; exact fnB_len _ _
  obtain ⟨L15, hL15⟩ : ∃ L, L = fnB 176 (wS (fun q => if q = (k % 16).toNat then someF n (k % 16).toNat ^^^ u8 (1 * 2 ^ min (IntKind.i64.wrap (k.tdiv 16) % 8).toNat IntKind.u8.bits) else someF n q)) := ⟨_, rfl⟩
  have hl15 : L15.length = 176 := by rw [hL15]; exact fnB_len _ _
  obtain ⟨L7, hL7⟩ : ∃ L, L = fnB 16 ((fun q => if q = (k % 16).toNat then someF n (k % 16).toNat ^^^ u8 (1 * 2 ^ min (IntKind.i64.wrap (k.tdiv 16) % 8).toNat IntKind.u8.bits) else someF n q)) := ⟨_, rfl⟩
  have hl7 : L7.length = 16 := by rw [hL7]; exact fnB_len _ _
  refine AW.seq ?_
  refine AW.region ?_
  refine AO.op (O.assign rfl rfl) rfl rfl rfl ?_
  refine AO.nil ?_
  refine AQ.thenN ?_
  refine AW.seq ?_
  refine AW.region ?_
  refine AO.op (O.move rfl rfl) rfl rfl rfl ?_
  refine AO.opRow (O.call rfl Try.func14 rfl rfl rfl (some_row _ 16 (by omega))) rfl rfl rfl ?_
  intro V1 hV1
  refine AO.op (O.move rfl rfl) rfl rfl rfl ?_
  refine AO.opRow (O.call rfl Try.func14 rfl rfl rfl (some_row _ 16 (by omega))) rfl rfl rfl ?_
  intro V2 hV2
  refine AO.op (O.assign rfl rfl) rfl rfl rfl ?_
  refine AO.op (O.assign rfl rfl) rfl rfl rfl ?_
  refine AO.nil ?_
  refine AQ.thenN ?_
  refine AW.seq ?_
  refine AW.region ?_
  refine AO.op (O.move rfl rfl) rfl rfl rfl ?_
  refine AO.op (O.move rfl rfl) rfl rfl rfl ?_
  (refine AO.opN (O.callLP2 rfl Try.func20 rfl rfl rfl 0 1 rfl rfl (aesencR_fn _ _) (rowE_plain _ _ _) (by (repeat (first | exact Lend2.nil | refine Lend2.one ?_ | refine Lend2.two ?_)); done)) rfl rfl rfl ?_)
  rintro _ _ ⟨V3, hV3, rfl, rfl⟩
  simp only [List.cons_append, List.nil_append]
  refine AO.op (O.move rfl rfl) rfl rfl rfl ?_
  refine AO.op (O.extract rfl rfl rfl) rfl rfl rfl ?_
  refine AO.op (O.extract rfl rfl rfl) rfl rfl rfl ?_
  refine AO.op (O.assign rfl rfl) rfl rfl rfl ?_
  refine AO.op (O.assign rfl rfl) rfl rfl rfl ?_
  refine AO.g ?_
  refine G.openRow 1 rfl (by omega) (fun b8 cap8 hc1 hc2 hxs hVe => ?_)
  subst hVe
  dsimp only [List.set]
  refine AO.u ?_
  refine AO.nil ?_
  refine AQ.thenN ?_
  refine AW.seq ?_
  refine AW.regionD 13 (by kernel_rfl) (by kernel_rfl) ?_
  simp only [List.take_succ_cons, List.take_zero, List.drop_succ_cons, List.drop_zero]
  refine FA.op (O.move rfl rfl) rfl rfl rfl rfl ?_
  refine FA.op (O.move rfl rfl) rfl rfl rfl rfl ?_
  refine FA.op (O.quo rfl rfl rfl (by omega) (by rfl)) rfl rfl rfl rfl ?_
  refine FA.op (O.call rfl Try.func15 rfl rfl rfl (Dk.mod_fn _ _ (by omega) (by omega))) rfl rfl rfl rfl ?_
  refine FA.op (O.idxV rfl rfl rfl ⟨(by omega), (by omega)⟩) rfl rfl rfl rfl ?_
  refine FA.op (O.load rfl rfl (by repeat (first | exact List.Mem.head _ | refine List.Mem.tail _ ?_)) (by exact arB_get (k := (IntKind.i64.wrap (k.tdiv 128) % 16).toNat) (by omega) (by omega))) rfl rfl rfl rfl ?_
  refine FA.op (O.move rfl rfl) rfl rfl rfl rfl ?_
  refine FA.op (O.quo rfl rfl rfl (by omega) (by rfl)) rfl rfl rfl rfl ?_
  refine FA.op (O.call rfl Try.func15 rfl rfl rfl (Dk.mod_fn _ _ (by omega) (by omega))) rfl rfl rfl rfl ?_
  refine FA.op (O.conv rfl rfl (by exact wU64 (by omega))) rfl rfl rfl rfl ?_
  refine FA.op (O.shl rfl rfl rfl (by omega) wU8any) rfl rfl rfl rfl ?_
  refine FA.op (O.xor_ rfl rfl rfl xorU8) rfl rfl rfl rfl ?_
  refine FA.op (O.idxV rfl rfl rfl ⟨(by omega), (by omega)⟩) rfl rfl rfl rfl ?_
  refine FA.nil ?_
  simp only [chosen, List.nil_append, List.cons_append, List.append_nil]
  (refine AO.store (i := 1) rfl rfl rfl rfl rfl rfl (by rfl) (by rfl) (by exact Nat.ble_eq_true_of_le (by rw [arB_len]; omega)) (by exact arB_set (k := (IntKind.i64.wrap (k.tdiv 128) % 16).toNat) (by omega) _ (by omega)) (by (dsimp only [List.set, List.append, List.cons_append, List.nil_append, roB_cells, roI_cells, roO_cells, splice, ofConst, AV.cells, List.map, List.map_cons, List.map_nil, List.take, List.drop, Nat.zero_add, Nat.add_zero, Nat.reduceAdd, Nat.reduceMul, Nat.zero_mul, Value.cells, List.toList_toArray, zerosA, List.replicate, List.flatten, List.append_nil]; done)) ?_)
  refine AO.nil ?_
  refine AQ.thenN ?_
  refine AW.seq ?_
  refine AW.region ?_
  refine AO.op (O.move rfl rfl) rfl rfl rfl ?_
  refine AO.g ?_
  refine G.closeRow (b := b8) (sz := 1) (n := 16) (cap := cap8) 1 rfl (arB_len _ _) rfl hc1 hc2 ?_
  dsimp only [List.set]
  refine AO.u ?_
  refine AO.op (O.move rfl rfl) rfl rfl rfl ?_
  (refine AO.opN (O.callLP2 rfl Try.func20 rfl rfl rfl 1 2 rfl rfl (aesencR_fn _ _) (rowE_plain _ _ _) (by (repeat (first | exact Lend2.nil | refine Lend2.one ?_ | refine Lend2.two ?_)); done)) rfl rfl rfl ?_)
  rintro _ _ ⟨V4, hV4, rfl, rfl⟩
  simp only [List.cons_append, List.nil_append]
  refine AO.op (O.move rfl rfl) rfl rfl rfl ?_
  refine AO.op (O.extract rfl rfl rfl) rfl rfl rfl ?_
  refine AO.op (O.extract rfl rfl rfl) rfl rfl rfl ?_
  refine AO.op (O.assign rfl rfl) rfl rfl rfl ?_
  refine AO.op (O.assign rfl rfl) rfl rfl rfl ?_
  refine AO.nil ?_
  refine AQ.thenN ?_
  refine AW.seq ?_
  refine AW.region ?_
  refine AO.op (O.move rfl rfl) rfl rfl rfl ?_
  (refine AO.opN (O.callLP rfl Try.func17 rfl rfl rfl (List.mem_of_getElem? (i := 3) rfl) (aesexpR_fn _) (rowE_plain _ _ _) (by (repeat (first | exact LendL.nil | refine LendL.lend ?_)); done)) rfl rfl rfl ?_)
  rintro _ _ ⟨V5, hV5, rfl, rfl⟩
  simp only [List.cons_append, List.nil_append]
  refine AO.op (O.move rfl rfl) rfl rfl rfl ?_
  refine AO.op (O.extract rfl rfl rfl) rfl rfl rfl ?_
  refine AO.op (O.extract rfl rfl rfl) rfl rfl rfl ?_
  refine AO.op (O.assign rfl rfl) rfl rfl rfl ?_
  refine AO.op (O.assign rfl rfl) rfl rfl rfl ?_
  refine AO.g ?_
  refine G.openRow 4 rfl (by omega) (fun b7 cap7 hc3 hc4 hxs7 hVe => ?_)
  subst hVe
  dsimp only [List.set]
  refine AO.u ?_
  refine AO.nil ?_
  refine AQ.thenN ?_
  refine AW.seq ?_
  refine AW.regionD 12 (by kernel_rfl) (by kernel_rfl) ?_
  simp only [List.take_succ_cons, List.take_zero, List.drop_succ_cons, List.drop_zero]
  refine FA.op (O.move rfl rfl) rfl rfl rfl rfl ?_
  refine FA.op (O.move rfl rfl) rfl rfl rfl rfl ?_
  refine FA.op (O.call rfl Try.func15 rfl rfl rfl (Dk.mod_fn _ _ (by omega) (by omega))) rfl rfl rfl rfl ?_
  refine FA.op (O.idxV rfl rfl rfl ⟨(by omega), (by omega)⟩) rfl rfl rfl rfl ?_
  refine FA.op (O.load rfl rfl (by repeat (first | exact List.Mem.head _ | refine List.Mem.tail _ ?_)) (by exact arB_get (k := (k % 16).toNat) (by omega) (by omega))) rfl rfl rfl rfl ?_
  refine FA.op (O.move rfl rfl) rfl rfl rfl rfl ?_
  refine FA.op (O.quo rfl rfl rfl (by omega) (by rfl)) rfl rfl rfl rfl ?_
  refine FA.op (O.call rfl Try.func15 rfl rfl rfl (Dk.mod_fn _ _ (by omega) (by omega))) rfl rfl rfl rfl ?_
  refine FA.op (O.conv rfl rfl (by exact wU64 (by omega))) rfl rfl rfl rfl ?_
  refine FA.op (O.shl rfl rfl rfl (by omega) wU8any) rfl rfl rfl rfl ?_
  refine FA.op (O.xor_ rfl rfl rfl xorU8) rfl rfl rfl rfl ?_
  refine FA.op (O.idxV rfl rfl rfl ⟨(by omega), (by omega)⟩) rfl rfl rfl rfl ?_
  refine FA.nil ?_
  simp only [chosen, List.nil_append, List.cons_append, List.append_nil]
  (refine AO.store (i := 4) rfl rfl rfl rfl rfl rfl (by rfl) (by rfl) (by exact Nat.ble_eq_true_of_le (by rw [arB_len]; omega)) (by exact arB_set (k := (k % 16).toNat) (by omega) _ (by omega)) (by (dsimp only [List.set, List.append, List.cons_append, List.nil_append, roB_cells, roI_cells, roO_cells, splice, ofConst, AV.cells, List.map, List.map_cons, List.map_nil, List.take, List.drop, Nat.zero_add, Nat.add_zero, Nat.reduceAdd, Nat.reduceMul, Nat.zero_mul, Value.cells, List.toList_toArray, zerosA, List.replicate, List.flatten, List.append_nil]; done)) ?_)
  refine AO.nil ?_
  refine AQ.thenN ?_
  refine AW.seq ?_
  refine AW.region ?_
  refine AO.op (O.move rfl rfl) rfl rfl rfl ?_
  refine AO.g ?_
  refine G.closeRow (b := b7) (sz := 1) (n := 16) (cap := cap7) 4 rfl (arB_len _ _) rfl hc3 hc4 ?_
  dsimp only [List.set]
  refine AO.u ?_
  (refine AO.opN (O.callLP rfl Try.func17 rfl rfl rfl (List.mem_of_getElem? (i := 4) rfl) (aesexpR_fn _) (rowE_plain _ _ _) (by (repeat (first | exact LendL.nil | refine LendL.lend ?_)); done)) rfl rfl rfl ?_)
  rintro _ _ ⟨V6, hV6, rfl, rfl⟩
  simp only [List.cons_append, List.nil_append]
  refine AO.op (O.move rfl rfl) rfl rfl rfl ?_
  refine AO.op (O.extract rfl rfl rfl) rfl rfl rfl ?_
  refine AO.op (O.extract rfl rfl rfl) rfl rfl rfl ?_
  refine AO.op (O.assign rfl rfl) rfl rfl rfl ?_
  refine AO.op (O.assign rfl rfl) rfl rfl rfl ?_
  refine AO.g ?_
  refine G.freezeRow 0 rfl [15] (by repeat (first | exact frNil | refine frCons rfl ?_)) ?_
  dsimp only [List.map, List.eraseIdx]
  refine G.freezeRow 0 rfl [13] (by repeat (first | exact frNil | refine frCons rfl ?_)) ?_
  dsimp only [List.map, List.eraseIdx]
  refine G.freezeRow 0 rfl [11] (by repeat (first | exact frNil | refine frCons rfl ?_)) ?_
  dsimp only [List.map, List.eraseIdx]
  refine G.freezeRow 0 rfl [9] (by repeat (first | exact frNil | refine frCons rfl ?_)) ?_
  dsimp only [List.map, List.eraseIdx]
  refine G.freezeRow 1 rfl [7] (by repeat (first | exact frNil | refine frCons rfl ?_)) ?_
  dsimp only [List.map, List.eraseIdx, List.cons_append, List.nil_append]
  refine G.re 15 (roB L15) (congrArg some (by rw [hL15]; exact (roB_fnB _ _).symm)) ?_
  refine G.re 13 (roB L13) (congrArg some (by rw [hL13]; exact (roB_fnB _ _).symm)) ?_
  refine G.re 11 (roB L11) (congrArg some (by rw [hL11]; exact (roB_fnB _ _).symm)) ?_
  refine G.re 9 (roB L9) (congrArg some (by rw [hL9]; exact (roB_fnB _ _).symm)) ?_
  refine G.re 7 (roB L7) (congrArg some (by rw [hL7]; exact (roB_fnB _ _).symm)) ?_
  refine AO.u ?_
  refine AO.nil ?_
  refine AQ.thenN ?_
  refine AW.seq ?_
  refine AW.regionD 50 (by kernel_rfl) (by kernel_rfl) ?_
  simp only [List.take_succ_cons, List.take_zero, List.drop_succ_cons, List.drop_zero]
  refine FA.op (O.move rfl rfl) rfl rfl rfl rfl ?_
  refine FA.op (O.eql rfl rfl rfl (by exact beq_iff_eq.2 (by omega))) rfl rfl rfl rfl ?_
  refine FA.op (O.move rfl rfl) rfl rfl rfl rfl ?_
  refine FA.opG rfl rfl rfl rfl (fun hp => O.move rfl rfl) ?_
  refine FA.opG rfl rfl rfl rfl (fun hp => OpW.force 71 rfl (by exact hp) (O.eql rfl rfl rfl (by exact beq_iff_eq.2 (by omega)))) ?_
  refine FA.op (O.pickAnd rfl rfl rfl rfl (fun h => by exact h)) rfl rfl rfl rfl ?_
  refine FA.op (O.move rfl rfl) rfl rfl rfl rfl ?_
  refine FA.opG rfl rfl rfl rfl (fun hp => O.move rfl rfl) ?_
  refine FA.opG rfl rfl rfl rfl (fun hp => OpW.force 75 rfl (by exact hp) (O.eql rfl rfl rfl (by exact beq_iff_eq.2 (by omega)))) ?_
  refine FA.op (O.pickAnd rfl rfl rfl rfl (fun h => by exact h)) rfl rfl rfl rfl ?_
  refine FA.op (O.move rfl rfl) rfl rfl rfl rfl ?_
  refine FA.opG rfl rfl rfl rfl (fun hp => O.move rfl rfl) ?_
  refine FA.opG rfl rfl rfl rfl (fun hp => OpW.force 79 rfl (by exact hp) (O.eql rfl rfl rfl (by exact beq_iff_eq.2 (by omega)))) ?_
  refine FA.op (O.pickAnd rfl rfl rfl rfl (fun h => by exact h)) rfl rfl rfl rfl ?_
  refine FA.op (O.move rfl rfl) rfl rfl rfl rfl ?_
  refine FA.opG rfl rfl rfl rfl (fun hp => O.move rfl rfl) ?_
  refine FA.opG rfl rfl rfl rfl (fun hp => OpW.force 83 rfl (by exact hp) (O.convS rfl rfl (by rfl))) ?_
  refine FA.opG rfl rfl rfl rfl (fun hp => O.move rfl rfl) ?_
  refine FA.opG rfl rfl rfl rfl (fun hp => OpW.force 85 rfl (by exact hp) (O.convS rfl rfl (by rfl))) ?_
  refine FA.opG rfl rfl rfl rfl (fun hp => OpW.force 84 rfl (by exact hp) (OpW.force 86 rfl (by exact hp) (O.neqS rfl rfl rfl (by rfl)))) ?_
  refine FA.op (O.pickAnd rfl rfl rfl rfl (fun h => by exact h)) rfl rfl rfl rfl ?_
  refine FA.op (O.move rfl rfl) rfl rfl rfl rfl ?_
  refine FA.opG rfl rfl rfl rfl (fun hp => O.move rfl rfl) ?_
  refine FA.opG rfl rfl rfl rfl (fun hp => OpW.force 90 rfl (by exact hp) (O.lenR rfl rfl)) ?_
  refine FA.opG rfl rfl rfl rfl (fun hp => OpW.force 91 rfl (by exact hp) (O.eql rfl rfl rfl (by exact beq_iff_eq.2 (by omega)))) ?_
  refine FA.op (O.pickAnd rfl rfl rfl rfl (fun h => by exact h)) rfl rfl rfl rfl ?_
  refine FA.op (O.move rfl rfl) rfl rfl rfl rfl ?_
  refine FA.opG rfl rfl rfl rfl (fun hp => O.move rfl rfl) ?_
  refine FA.opG rfl rfl rfl rfl (fun hp => OpW.force 95 rfl (by exact hp) (O.lenR rfl rfl)) ?_
  refine FA.opG rfl rfl rfl rfl (fun hp => OpW.force 96 rfl (by exact hp) (O.eql rfl rfl rfl (by exact beq_iff_eq.2 (by omega)))) ?_
  refine FA.op (O.pickAnd rfl rfl rfl rfl (fun h => by exact h)) rfl rfl rfl rfl ?_
  refine FA.op (O.move rfl rfl) rfl rfl rfl rfl ?_
  refine FA.opG rfl rfl rfl rfl (fun hp => O.move rfl rfl) ?_
  refine FA.opG rfl rfl rfl rfl (fun hp => OpW.force 100 rfl (by exact hp) (O.convS rfl rfl (by rfl))) ?_
  refine FA.opG rfl rfl rfl rfl (fun hp => O.move rfl rfl) ?_
  refine FA.opG rfl rfl rfl rfl (fun hp => OpW.force 102 rfl (by exact hp) (O.convS rfl rfl (by rfl))) ?_
  refine FA.opG rfl rfl rfl rfl (fun hp => OpW.force 101 rfl (by exact hp) (OpW.force 103 rfl (by exact hp) (O.neqS rfl rfl rfl (by rfl)))) ?_
  refine FA.op (O.pickAnd rfl rfl rfl rfl (fun h => by exact h)) rfl rfl rfl rfl ?_
  refine FA.op (O.move rfl rfl) rfl rfl rfl rfl ?_
  refine FA.opG rfl rfl rfl rfl (fun hp => O.move rfl rfl) ?_
  refine FA.opG rfl rfl rfl rfl (fun hp => OpW.force 107 rfl (by exact hp) (O.sliceToB (k := 16) rfl rfl rfl (by rfl) (by omega))) ?_
  refine FA.opG rfl rfl rfl rfl (fun hp => OpW.force 108 rfl (by exact hp) (O.convS rfl rfl (by rfl))) ?_
  refine FA.opG rfl rfl rfl rfl (fun hp => O.move rfl rfl) ?_
  refine FA.opG rfl rfl rfl rfl (fun hp => OpW.force 110 rfl (by exact hp) (O.convS rfl rfl (by rfl))) ?_
  refine FA.opG rfl rfl rfl rfl (fun hp => OpW.force 109 rfl (by exact hp) (OpW.force 111 rfl (by exact hp) (O.eqlS rfl rfl rfl (by rfl)))) ?_
  refine FA.op (O.pickAnd rfl rfl rfl rfl (fun h => by exact h)) rfl rfl rfl rfl ?_
  refine FA.op (O.move rfl rfl) rfl rfl rfl rfl ?_
  refine FA.opG rfl rfl rfl rfl (fun hp => O.call rfl Try.func19 rfl rfl rfl (awake06_fn)) ?_
  refine FA.op (O.pickAnd rfl rfl rfl rfl (fun h => by exact h)) rfl rfl rfl rfl ?_
  refine FA.op (O.assign rfl rfl) rfl rfl rfl rfl ?_
  refine FA.nil ?_
  simp only [chosen, List.nil_append, List.cons_append, List.append_nil]
  refine AO.nil ?_
  refine AQ.thenN ?_
  refine AW.ret ?_
  have hb1 := bit_ne (z := IntKind.i64.wrap (k.tdiv 2048) % 8) (by omega) (by omega)
  have hb2 := bit_ne (z := IntKind.i64.wrap (k.tdiv 16) % 8) (by omega) (by omega)
  have e1 := enc_ne (w := wS (someF n)) (f := someF m) (i := (IntKind.i64.wrap (k.tdiv 128) % 16).toNat) (by omega) hb1
  have e2 := key_ne (f := someF n) (i := (k % 16).toNat) (by omega) hb2
  rw [← hL9, ← hL11] at e1
  rw [← hL13, ← hL15] at e2
  have e3 : L15.take 16 = L7 := by rw [hL15, hL7]; exact key_take _
  refine AQ.ret1 rfl rfl ⟨_, List.nil_sublist _, .nil⟩ (⟨by simp only [strOf_toList, e3, hl13, hl15]; simp [e1, e2], rfl⟩)
end Go.Proofs.Ytochjihddnkhcaa.By

namespace Go.Proofs.Ytochjihddnkhcaa.A
open Go.ChangeShapes Go.WideShapes Go.ChangeAt Go.RowKit Go.Deep L
set_option linter.unusedVariables false
set_option linter.unusedSimpArgs false

theorem own : ownKnob Try.prog.godebug = none := by kernel_rfl
theorem kids : Kids Try.prog (· < Try.prog.types.size) := kids_rows (by kernel_rfl) (by kernel_rfl)
theorem full : ∀ t e, t < Try.prog.types.size → Try.prog.underlying t = some (.slice e) → 0 < Try.prog.cellsOf e := slices_full_of Try.prog (by kernel_rfl)

theorem sameAt_ext {W W' : World} (h : Ext W W') (p : MemPlace) (hp : p.block < W.heap.size) : W.sameAt W' p := by
  have hb : W'.heap[p.block]? = W.heap[p.block]? := h.block _ hp (fun hh => hh)
  cases p with
  | cell b off => exact World.cell?_of_block (w := W) (a := ⟨b, off, none⟩) hb
  | map b => exact hb

section
variable {H : Type} {enc : TypeId × Value → H}
theorem trodAll_carry {P : Program} {W W' : World} {base : Nat} {spare : Nat → Bool} {held : Bool} : ∀ {ts : List TypeId} {vs : List Value} {ds : List (DataW H)} {ps : List MemPlace},
    DataW.TrodAll enc P W base spare held ts vs ds ps → (∀ p ∈ ps, W.sameAt W' p) → DataW.TrodAll enc P W' base spare held ts vs ds ps
  | [], [], [], _, h, _ => h
  | _ :: _, _ :: _, _ :: _, _, ⟨p, q, ⟨n, h1⟩, h2, e⟩, hs => ⟨p, q, ⟨n, DataW.trod_carry n _ _ _ h1 (fun x hx => hs x (by rw [e]; exact List.mem_append_left _ hx))⟩, trodAll_carry h2 (fun x hx => hs x (by rw [e]; exact List.mem_append_right _ hx)), e⟩

/-- A law: it returned true, and nothing that was there has turned. -/
theorem lawPost {fn : Func} {s : ChangeSpec} {W W' : World} {args : Array Value} {ds gs : List (DataW H)} {before : List MemPlace} {bt : TypeId}
    (hW : DataW.Whole enc Try.prog fn.params.toList s.vars false W args.toList ds gs before) (hv : s.vars = []) (hfn : s.fn H (ds ++ gs) = { results := [.lit (.bool true)], args := ds }) (hres : fn.resultTypes = #[bt]) (hbt : Try.prog.underlying bt = some .bool)
    (hpar : ∀ t ∈ fn.params.toList, t < Try.prog.types.size) (hE : Ext W W') : s.post enc Try.prog fn false true false false W args (.bool true) W' := by
  have hold : ∀ p ∈ before, (fun b => decide (b < W.heap.size)) p.block = true := fun p hp => by simpa using hW.lt p hp
  have hlt := hW.lt
  have hW' := hW
  obtain ⟨pa, pv, hA, hV, rfl, hz, hn⟩ := hW
  rw [hv] at hV
  obtain ⟨rfl, rfl⟩ := trodVars_none hV
  have hA' : DataW.TrodAll enc Try.prog W' 0 (fun _ => true) true fn.params.toList args.toList ds pa := trodAll_carry hA fun p hp => sameAt_ext hE p (hlt p (List.mem_append_left _ hp))
  have hargs : ∀ sp : Nat → Bool, (∀ p ∈ pa ++ [], sp p.block = true) → DataW.TrodAll enc Try.prog W' 0 sp true fn.params.toList args.toList ds pa := fun sp hsp =>
    DataW.TrodAll.respare kids full hpar hA' fun p hp => hsp p (by simpa using hp)
  have hres' : ∀ (b : Nat) (sp : Nat → Bool) (hd : Bool), DataW.TrodAll enc Try.prog W' b sp hd fn.resultTypes.toList ((Value.bool true).resultList fn.resultTypes.size) [.lit (.bool true)] [] := fun b sp hd => by
    rw [hres]; exact trodAll_cons_mk (shut_bool hbt true) trodAll_mk0
  refine ⟨ds, [], pa ++ [], [], pa, [], hW', by rw [hfn]; exact hres' _ _ _, by rw [hfn]; exact hargs _ hold, by rw [hfn, hv]; rfl, World.keptBut_mono (fun p hp => ⟨hp, ?_⟩) ((hE.toBelow).frame (· ∈ pa ++ [])), fun h => by cases h⟩
  exact Or.inr (by simpa using hp)

/-! ### How arguments read -/

def Old (W : World) : Nat → Prop := fun b => b < W.heap.size

variable {P : Program} {W : World}
/-- A reading of cells of a type as these. -/
theorem rd_int {base : Nat} {spare : Nat → Bool} {held : Bool} {t : TypeId} {k : IntKind} (ht : P.underlying t = some (.int k)) {n : Nat} {cs : List Value} {x : DataW H × List MemPlace} (h : DataW.trod enc P W base spare held n t cs = some x) :
    ∃ z : Int, (Lit.int k z).wf = true ∧ RelL (Old W) W [.val (.int k z)] cs := by
  cases n with
  | zero => simp [DataW.trod] at h
  | succ n =>
    obtain ⟨z, rfl, _, hw⟩ := DataW.trod_int ht h
    exact ⟨z, hw, RelL.cons (.val _) RelL.nil⟩

theorem rd_slice {α : Type} {enc' : α → List AV} {good : α → Prop} {base : Nat} {spare : Nat → Bool} {held : Bool} {t e : TypeId} (ht : P.underlying t = some (.slice e)) (hsz : ∀ a, (enc' a).length = P.cellsOf e) (hpos : 0 < P.cellsOf e)
    (he : ∀ (n : Nat) (cs : List Value) (x : DataW H × List MemPlace), cs.length = P.cellsOf e → DataW.trod enc P W base spare held n e cs = some x → ∃ a, good a ∧ RelL (Old W) W (enc' a) cs)
    {n : Nat} {cs : List Value} {x : DataW H × List MemPlace} (h : DataW.trod enc P W base spare held n t cs = some x) :
    ∃ l : List α, (∀ a ∈ l, good a) ∧ l.length ≤ maxLen ∧ RelL (Old W) W [.ro false l.length (l.flatMap enc')] cs := by
  rcases open_slice ht h with ⟨rfl, -⟩ | ⟨ad, len, cap, m, n', D, Pl, rfl, hb, hl, hm, hmm, hx, hi⟩
  · exact ⟨[], fun _ h => (by cases h), Nat.zero_le _, RelL.cons (.emp _ _ _ (fun h => by cases h) (Nat.zero_le _)) RelL.nil⟩
  · have hlm : len ≤ m := by rw [hmm]; split <;> omega
    have hex : ∀ i : Nat, ∃ a : Option α, i < len → ∃ a', a = some a' ∧ good a' ∧ ∃ cs', W.cells? base (ad.add (i * P.cellsOf e)) (P.cellsOf e) = some cs' ∧ RelL (Old W) W (enc' a') cs' := fun i => by
      by_cases hil : i < len
      · obtain ⟨cs', hc, htr⟩ := hi i (by omega)
        obtain ⟨_, hcl, _⟩ := World.cells?_some hc
        obtain ⟨a, hg, hr⟩ := he _ _ _ hcl htr
        exact ⟨some a, fun _ => ⟨a, rfl, hg, cs', hc, hr⟩⟩
      · exact ⟨none, fun h => absurd h hil⟩
    obtain ⟨f, hf⟩ := Classical.axiomOfChoice hex
    by_cases hlen0 : len = 0
    · subst hlen0
      exact ⟨[], fun _ h => (by cases h), Nat.zero_le _, RelL.cons (.emp _ _ _ (fun h => by cases h) hm) RelL.nil⟩
    · obtain ⟨a0, _, _⟩ := hf 0 (by omega)
      let g : Nat → α := fun i => (f i).getD a0
      have hg : ∀ i, i < len → good (g i) ∧ ∃ cs', W.cells? base (ad.add (i * P.cellsOf e)) (P.cellsOf e) = some cs' ∧ RelL (Old W) W (enc' (g i)) cs' := fun i hi' => by
        obtain ⟨a', ha', h1, h2⟩ := hf i hi'
        have : g i = a' := by simp [g, ha']
        rw [this]; exact ⟨h1, h2⟩
      have hflat : ∀ (len : Nat), (((List.range len).map g).flatMap enc').length = len * P.cellsOf e := by
        intro len
        induction len with
        | zero => simp
        | succ k ih => rw [List.range_succ, List.map_append, List.flatMap_append, List.length_append, ih]; simp [hsz, Nat.add_mul]
      have hflatget : ∀ (len i j : Nat), i < len → j < P.cellsOf e → (((List.range len).map g).flatMap enc')[i * P.cellsOf e + j]? = (enc' (g i))[j]? := by
        intro len
        induction len with
        | zero => intro i j h; omega
        | succ k ih =>
          intro i j h hj
          rw [List.range_succ, List.map_append, List.flatMap_append, List.getElem?_append]
          by_cases hik : i < k
          · have h1 : (i + 1) * P.cellsOf e ≤ k * P.cellsOf e := Nat.mul_le_mul_right _ (by omega)
            rw [Nat.add_mul] at h1
            rw [if_pos (by rw [hflat]; omega)]
            exact ih i j hik hj
          · have : i = k := by omega
            subst this
            rw [if_neg (by rw [hflat]; omega), hflat]
            simp
      have hblk : ad.spot = none ∧ ad.block < W.heap.size := by
        obtain ⟨_, cs', hc, _⟩ := hg 0 (by omega)
        obtain ⟨_, hcl, hat⟩ := World.cells?_some hc
        have h0 := hat 0 hpos
        simp only [Nat.zero_mul] at h0
        have h1 : W.cell? ad ≠ none := by
          intro hn
          rw [show (ad.add 0).add 0 = ad by simp [Addr.add]] at h0
          rw [hn] at h0
          have := (List.getElem?_eq_none_iff.1 h0.symm)
          omega
        refine ⟨?_, ?_⟩
        · cases hsp : ad.spot with
          | none => rfl
          | some _ => exfalso; apply h1; unfold World.cell?; split <;> simp [hsp]
        · cases hc : W.cell? ad with
          | none => exact absurd hc h1
          | some u => exact World.block_lt_of_cell? W ad hc
      obtain ⟨b, off, sp⟩ := ad
      obtain ⟨rfl, hblt⟩ := hblk
      have hcell : ∀ i j, i < len → j < P.cellsOf e → ∃ u, W.cell? ⟨b, off + (i * P.cellsOf e + j), none⟩ = some u ∧ ∃ x, (enc' (g i))[j]? = some x ∧ RelV (Old W) W x u := fun i j hi' hj => by
        obtain ⟨_, cs', hc, hr⟩ := hg i hi'
        obtain ⟨_, hcl, hat⟩ := World.cells?_some hc
        have h0 := hat j hj
        rw [addr_add, addr_add] at h0
        have hjl : j < cs'.length := by omega
        have hjx : j < (enc' (g i)).length := by rw [hsz]; exact hj
        refine ⟨cs'[j], by rw [← Nat.add_assoc, h0]; simp [hjl], (enc' (g i))[j], by simp [hjx], ?_⟩
        have := hr.2 j hjx
        simpa [hjl] using this
      refine ⟨(List.range len).map g, fun a ha => ?_, by simp; omega, RelL.cons ?_ RelL.nil⟩
      · obtain ⟨i, hi', rfl⟩ := List.mem_map.1 ha
        exact (hg i (List.mem_range.1 hi')).1
      · rw [List.length_map, List.length_range]
        have hq : ∀ j, j < (((List.range len).map g).flatMap enc').length → ∃ u, W.cell? ⟨b, off + j, none⟩ = some u ∧ ∃ x, (((List.range len).map g).flatMap enc')[j]? = some x ∧ RelV (Old W) W x u := fun j hj => by
          rw [hflat] at hj
          have h1 : j / P.cellsOf e < len := (Nat.div_lt_iff_lt_mul hpos).2 hj
          have h2 := Nat.mod_lt j hpos
          have h3 : j / P.cellsOf e * P.cellsOf e + j % P.cellsOf e = j := by rw [Nat.mul_comm]; exact Nat.div_add_mod j _
          obtain ⟨u, hu, x, hx', hr⟩ := hcell (j / P.cellsOf e) (j % P.cellsOf e) h1 h2
          rw [h3] at hu
          refine ⟨u, hu, x, ?_, hr⟩
          have := hflatget len _ _ h1 h2
          rw [h3] at this
          rw [this, hx']
        refine .ro false len _ b off cap (fun j => (W.cell? ⟨b, off + j, none⟩).getD undef) hblt (fun j hj => ?_) (fun j hj => ?_) hl hm (fun h => by cases h)
        · obtain ⟨u, hu, _⟩ := hq j hj
          rw [hu]; rfl
        · obtain ⟨u, hu, x, hx', hr⟩ := hq j hj
          rw [hu]
          simp only [Option.getD_some]
          have : x = (((List.range len).map g).flatMap enc')[j] := by
            rw [List.getElem?_eq_getElem hj] at hx'; exact (Option.some.inj hx').symm
          rw [← this]; exact hr

theorem flatMap_one {α : Type} (f : α → AV) (l : List α) : l.flatMap (fun a => [f a]) = l.map f := by
  induction l with
  | nil => rfl
  | cons a l ih => simp [List.flatMap_cons, ih]

theorem rd_ints {base : Nat} {spare : Nat → Bool} {held : Bool} {t e : TypeId} {k : IntKind} (ht : P.underlying t = some (.slice e)) (he : P.underlying e = some (.int k)) (h1 : P.cellsOf e = 1) {n : Nat} {cs : List Value} {x : DataW H × List MemPlace} (h : DataW.trod enc P W base spare held n t cs = some x) :
    ∃ l : List Int, (∀ z ∈ l, (Lit.int k z).wf = true) ∧ l.length ≤ maxLen ∧ RelL (Old W) W [.ro false l.length (intsA k l)] cs := by
  obtain ⟨l, h2, h3, h4⟩ := rd_slice (enc' := fun z : Int => [.val (.int k z)]) (good := fun z => (Lit.int k z).wf = true) ht (fun _ => h1.symm) (by omega) (fun n cs x _ h => rd_int he h) h
  rw [flatMap_one] at h4
  exact ⟨l, h2, h3, h4⟩
theorem rd_bytes {base : Nat} {spare : Nat → Bool} {held : Bool} {t e : TypeId} (ht : P.underlying t = some (.slice e)) (he : P.underlying e = some (.int .u8)) (h1 : P.cellsOf e = 1) {n : Nat} {cs : List Value} {x : DataW H × List MemPlace} (h : DataW.trod enc P W base spare held n t cs = some x) :
    ∃ l : List UInt8, l.length ≤ maxLen ∧ RelL (Old W) W [roB l] cs := by
  obtain ⟨l, h2, h3, h4⟩ := rd_ints ht he h1 h
  have hb : ∃ m : List UInt8, l = m.map fun b => ((b.toNat : Nat) : Int) := by
    clear h h3 h4
    induction l with
    | nil => exact ⟨[], rfl⟩
    | cons z l ih =>
      obtain ⟨m, rfl⟩ := ih fun z hz => h2 z (List.mem_cons_of_mem _ hz)
      have hz := h2 z (List.mem_cons_self ..)
      have hz' : 0 ≤ z ∧ z ≤ 255 := by simpa [Lit.wf, IntKind.min, IntKind.max, IntKind.signed, IntKind.bits] using hz
      refine ⟨UInt8.ofNat z.toNat :: m, ?_⟩
      simp only [List.map_cons, List.cons.injEq, and_true]
      rw [UInt8.toNat_ofNat_of_lt' (by simp [UInt8.size]; omega)]
      omega
  obtain ⟨m, rfl⟩ := hb
  refine ⟨m, by simpa using h3, ?_⟩
  simpa [roB, bytesA, intsA, Function.comp_def] using h4

theorem relV_of_one {R : Nat → Prop} {a : AV} {v : Value} (hc : v.cells.toList = [v]) (h : RelL R W [a] v.cells.toList) : RelV R W a v := by
  rw [hc] at h
  obtain ⟨u, r, he, h1, _⟩ := h.uncons
  cases he
  exact h1
end
end Go.Proofs.Ytochjihddnkhcaa.A

namespace Go.Proofs.Ytochjihddnkhcaa.A
open Go.ChangeShapes Go.WideShapes Go.ChangeAt Go.RowKit L
set_option linter.unusedVariables false
set_option linter.unusedSimpArgs false
section
variable {P : Program}

/-- Arguments of this type read as one of these. -/
def Reads (P : Program) (t : TypeId) (φ : AV → Prop) : Prop :=
  ∀ (H : Type) (enc : TypeId × Value → H) (W : World) (base b0 : Nat) (spare : Nat → Bool) (held : Bool) (v : Value) (d : DataW H) (p : List MemPlace),
    Value.okWide P W .any b0 t v → DataW.Trod enc P W base spare held t v d p → ∃ x, φ x ∧ RelV (Old W) W x v
/-- Cells of this type read as one of these. -/
structure RdC (P : Program) (t : TypeId) {α : Type} (f : α → List AV) (good : α → Prop) : Prop where
  len : ∀ a, (f a).length = P.cellsOf t
  rd : ∀ (H : Type) (enc : TypeId × Value → H) (W : World) (base : Nat) (spare : Nat → Bool) (held : Bool) (n : Nat) (cs : List Value) (x : DataW H × List MemPlace),
    DataW.trod enc P W base spare held n t cs = some x → ∃ a, good a ∧ RelL (Old W) W (f a) cs

theorem okw_int {W : World} {r : Reach} {b : Nat} {t : TypeId} {k : IntKind} (ht : P.underlying t = some (.int k)) {v : Value} (h : Value.okWide P W r b t v) : v.cells.toList = [v] := by
  cases v <;> simp [Value.okWide, ht, Cell.okWide, Cell.ok] at h <;> rfl
theorem okw_slice {W : World} {r : Reach} {b : Nat} {t e : TypeId} (ht : P.underlying t = some (.slice e)) {v : Value} (h : Value.okWide P W r b t v) : v.cells.toList = [v] := by
  cases v <;> simp [Value.okWide, ht, Cell.okWide, Cell.ok] at h <;> rfl
theorem okw_bool {W : World} {r : Reach} {b : Nat} {t : TypeId} (ht : P.underlying t = some .bool) {v : Value} (h : Value.okWide P W r b t v) : v.cells.toList = [v] := by
  cases v <;> simp [Value.okWide, ht, Cell.okWide, Cell.ok] at h <;> rfl
theorem RelL.glue {R : Nat → Prop} {W : World} {xs ys : List AV} {cs : List Value} {o k : Nat} (h1 : RelL R W xs ((cs.drop o).take k)) (h2 : RelL R W ys (cs.drop (o + k))) : RelL R W (xs ++ ys) (cs.drop o) := by
  have := h1.app h2
  rwa [show (cs.drop o).take k ++ cs.drop (o + k) = cs.drop o by rw [← List.drop_drop, List.take_append_drop]] at this
theorem RdC.int {t : TypeId} {k : IntKind} (ht : P.underlying t = some (.int k)) (h1 : P.cellsOf t = 1) : RdC P t (fun z : Int => [.val (.int k z)]) (fun z => (Lit.int k z).wf = true) :=
  ⟨fun _ => h1.symm, fun H enc W base spare held n cs x h => rd_int ht h⟩
theorem RdC.bool {t : TypeId} (ht : P.underlying t = some .bool) (h1 : P.cellsOf t = 1) : RdC P t (fun z : Bool => [.val (.bool z)]) (fun _ => True) :=
  ⟨fun _ => h1.symm, fun H enc W base spare held n cs x h => by
    obtain ⟨b, rfl, _⟩ := DataW.trod_bool ht h
    exact ⟨b, trivial, RelL.cons (.val _) RelL.nil⟩⟩
theorem RdC.string {t : TypeId} (ht : P.underlying t = some .string) (h1 : P.cellsOf t = 1) : RdC P t (fun s : ByteArray => [.val (.string s)]) (fun s => s.size ≤ maxLen) :=
  ⟨fun _ => h1.symm, fun H enc W base spare held n cs x h => by
    obtain ⟨b, rfl, _, hs⟩ := DataW.trod_string ht h
    exact ⟨b, hs, RelL.cons (.val _) RelL.nil⟩⟩
theorem RdC.slice {t e : TypeId} {α : Type} {f : α → List AV} {good : α → Prop} (ht : P.underlying t = some (.slice e)) (h1 : P.cellsOf t = 1) (hpos : 0 < P.cellsOf e) (h : RdC P e f good) :
    RdC P t (fun l : List α => [.ro false l.length (l.flatMap f)]) (fun l => (∀ a ∈ l, good a) ∧ l.length ≤ maxLen) :=
  ⟨fun _ => h1.symm, fun H enc W base spare held n cs x hx => by
    obtain ⟨l, h2, h3, h4⟩ := rd_slice ht h.len hpos (fun n cs x _ hx => h.rd H enc W base spare held n cs x hx) hx
    exact ⟨l, ⟨h2, h3⟩, h4⟩⟩
theorem RdC.bytes {t e : TypeId} (ht : P.underlying t = some (.slice e)) (he : P.underlying e = some (.int .u8)) (h1 : P.cellsOf t = 1) (h2 : P.cellsOf e = 1) : RdC P t (fun l : List UInt8 => [roB l]) (fun l => l.length ≤ maxLen) :=
  ⟨fun _ => h1.symm, fun H enc W base spare held n cs x hx => rd_bytes ht he h2 hx⟩
/-- Fields, one after the other, from cell o on. -/
structure FR (P : Program) (fs : List Field) (o m : Nat) {α : Type} (f : α → List AV) (good : α → Prop) : Prop where
  len : ∀ a, (f a).length = m
  rd : ∀ (H : Type) (enc : TypeId × Value → H) (W : World) (base : Nat) (spare : Nat → Bool) (held : Bool) (cs : List Value), cs.length = o + m →
    (∀ fd ∈ fs, ∃ (n : Nat) (y : DataW H × List MemPlace), DataW.trod enc P W base spare held n fd.type ((cs.drop fd.offset).take (P.cellsOf fd.type)) = some y) → ∃ a, good a ∧ RelL (Old W) W (f a) (cs.drop o)
theorem FR.nil {o : Nat} : FR P [] o 0 (fun _ : Unit => []) (fun _ => True) :=
  ⟨fun _ => rfl, fun H enc W base spare held cs hl _ => ⟨(), trivial, by rw [List.drop_of_length_le (by omega)]; exact RelL.nil⟩⟩
theorem FR.cons {fd : Field} {fs : List Field} {o k m : Nat} {α β : Type} {f : α → List AV} {good : α → Prop} {g : β → List AV} {good' : β → Prop} (h : RdC P fd.type f good) (ho : fd.offset = o) (hk : P.cellsOf fd.type = k) (hs : FR P fs (o + k) m g good') :
    FR P (fd :: fs) o (k + m) (fun p : α × β => f p.1 ++ g p.2) (fun p => good p.1 ∧ good' p.2) :=
  ⟨fun p => by rw [List.length_append, h.len, hs.len, hk], fun H enc W base spare held cs hl hall => by
    obtain ⟨n, y, h1⟩ := hall fd (List.mem_cons_self ..)
    rw [ho, hk] at h1
    obtain ⟨a, h2, h3⟩ := h.rd H enc W base spare held _ _ _ h1
    obtain ⟨b, h4, h5⟩ := hs.rd H enc W base spare held cs (by omega) (fun fd hfd => hall fd (List.mem_cons_of_mem _ hfd))
    exact ⟨(a, b), ⟨h2, h4⟩, RelL.glue h3 h5⟩⟩
theorem RdC.struct {t : TypeId} {fs : List Field} {m : Nat} {α : Type} {f : α → List AV} {good : α → Prop} (ht : P.underlying t = some (.struct fs.toArray)) (hm : P.cellsOf t = m) (h : FR P fs 0 m f good) : RdC P t f good :=
  ⟨fun a => by rw [h.len, hm], fun H enc W base spare held n cs x hx => by
    obtain ⟨xs, n', _, _, hl, hlen, hf⟩ := DataW.trod_struct ht hx
    obtain ⟨a, h1, h2⟩ := h.rd H enc W base spare held cs (by omega) (fun fd hfd => by
      obtain ⟨i, hi, rfl⟩ := List.getElem_of_mem hfd
      have h0 := hf i fs[i] (by simp [hi])
      have hxi : i < xs.length := by rw [hlen]; simpa using hi
      rw [List.getElem?_eq_getElem hxi] at h0
      exact ⟨n', _, h0⟩)
    exact ⟨a, h1, by simpa using h2⟩⟩
theorem RdC.map {t : TypeId} {α β : Type} {f : α → List AV} {good : α → Prop} {g : β → List AV} {good' : β → Prop} (h : RdC P t f good) (φ : α → β) (hφ : ∀ a, good a → good' (φ a) ∧ f a = g (φ a)) (hl : ∀ b, (g b).length = P.cellsOf t) : RdC P t g good' :=
  ⟨hl, fun H enc W base spare held n cs x hx => by
    obtain ⟨a, h1, h2⟩ := h.rd H enc W base spare held n cs x hx
    exact ⟨φ a, (hφ a h1).1, (hφ a h1).2 ▸ h2⟩⟩
theorem RdC.reads {t : TypeId} {α : Type} {f : α → List AV} {good : α → Prop} (h : RdC P t f good) (g : α → AV) (hg : ∀ a, f a = [g a]) (hw : ∀ (W : World) (b : Nat) (v : Value), Value.okWide P W .any b t v → v.cells.toList = [v]) : Reads P t (fun x => ∃ a, good a ∧ x = g a) :=
  fun H enc W base b0 spare held v d p hv ⟨n, hx⟩ => by
    obtain ⟨a, h1, h2⟩ := h.rd H enc W base spare held n _ _ hx
    rw [hg] at h2
    exact ⟨g a, ⟨a, h1, rfl⟩, relV_of_one (hw _ _ _ hv) h2⟩
theorem Reads.int {t : TypeId} {k : IntKind} (ht : P.underlying t = some (.int k)) (h1 : P.cellsOf t = 1) : Reads P t (fun x => ∃ z : Int, (Lit.int k z).wf = true ∧ x = .val (.int k z)) := (RdC.int ht h1).reads (fun z => .val (.int k z)) (fun _ => rfl) (fun _ _ _ h => okw_int ht h)
theorem Reads.bool {t : TypeId} (ht : P.underlying t = some .bool) (h1 : P.cellsOf t = 1) : Reads P t (fun x => ∃ z : Bool, True ∧ x = .val (.bool z)) := (RdC.bool ht h1).reads (fun z => .val (.bool z)) (fun _ => rfl) (fun _ _ _ h => okw_bool ht h)
theorem Reads.bytes {t e : TypeId} (ht : P.underlying t = some (.slice e)) (he : P.underlying e = some (.int .u8)) (h1 : P.cellsOf t = 1) (h2 : P.cellsOf e = 1) : Reads P t (fun x => ∃ l : List UInt8, l.length ≤ maxLen ∧ x = roB l) := (RdC.bytes ht he h1 h2).reads roB (fun _ => rfl) (fun _ _ _ h => okw_slice ht h)
theorem Reads.slice {t e : TypeId} {α : Type} {f : α → List AV} {good : α → Prop} (ht : P.underlying t = some (.slice e)) (h1 : P.cellsOf t = 1) (hpos : 0 < P.cellsOf e) (h : RdC P e f good) :
    Reads P t (fun x => ∃ l : List α, ((∀ a ∈ l, good a) ∧ l.length ≤ maxLen) ∧ x = .ro false l.length (l.flatMap f)) := (RdC.slice ht h1 hpos h).reads (fun l => .ro false l.length (l.flatMap f)) (fun _ => rfl) (fun _ _ _ h => okw_slice ht h)

/-- All arguments. -/
def ReadsL (P : Program) : List TypeId → List (AV → Prop) → Prop
  | [], [] => True
  | t :: ts, φ :: φs => Reads P t φ ∧ ReadsL P ts φs
  | _, _ => False
theorem ReadsL.nil : ReadsL P [] [] := trivial
theorem ReadsL.cons {t : TypeId} {ts : List TypeId} {φ : AV → Prop} {φs : List (AV → Prop)} (h : Reads P t φ) (hs : ReadsL P ts φs) : ReadsL P (t :: ts) (φ :: φs) := ⟨h, hs⟩
def AllOf : List (AV → Prop) → (List AV → Prop) → Prop
  | [], K => K []
  | φ :: φs, K => ∀ x, φ x → AllOf φs (fun xs => K (x :: xs))

theorem readAll {H : Type} {enc : TypeId × Value → H} {W : World} {base b0 : Nat} {spare : Nat → Bool} {held : Bool} : ∀ {ts : List TypeId} {φs : List (AV → Prop)} {K : List AV → Prop} {vs : List Value} {ds : List (DataW H)} {ps : List MemPlace},
    ReadsL P ts φs → AllOf φs K → (∀ (j : Nat) t v, ts[j]? = some t → vs[j]? = some v → Value.okWide P W .any b0 t v) → DataW.TrodAll enc P W base spare held ts vs ds ps → ∃ xs, K xs ∧ RelL (Old W) W xs vs
  | [], [], K, vs, ds, ps, _, hK, _, hT => by
    obtain ⟨rfl, _, _⟩ := trodAll_nil hT
    exact ⟨[], hK, RelL.nil⟩
  | [], _ :: _, _, _, _, _, h, _, _, _ => h.elim
  | _ :: _, [], _, _, _, _, h, _, _, _ => h.elim
  | t :: ts, φ :: φs, K, vs, ds, ps, h, hK, hv, hT => by
    obtain ⟨v0, vs0, d0, ds0, p0, q0, rfl, rfl, rfl, h0, r0⟩ := trodAll_cons hT
    obtain ⟨x, h1, h2⟩ := h.1 H enc W base b0 spare held v0 d0 p0 (hv 0 t v0 rfl rfl) h0
    obtain ⟨xs, h3, h4⟩ := readAll h.2 (hK x h1) (fun j t v a b => hv (j + 1) t v a b) r0
    exact ⟨x :: xs, h3, RelL.cons h2 h4⟩
end

theorem law_contract {f : FuncId} {fn : Func} {s : ChangeSpec} {H : Type} (enc : TypeId × Value → H) {ts : List TypeId} {φs : List (AV → Prop)} (hp : fn.params.toList = ts) (hr : ReadsL Try.prog ts φs)
    (h : AllOf φs fun xs => Sp Try.prog f xs [] (Is (.val (.bool true)))) {W : World} {base : Nat} {args : Array Value} {ds gs : List (DataW H)} {before : List MemPlace}
    (hval : ∀ (j : Nat) t v, fn.params[j]? = some t → args[j]? = some v → Value.okWide Try.prog W .any base t v)
    (hW : DataW.Whole enc Try.prog fn.params.toList s.vars false W args.toList ds gs before)
    (post : ∀ W', Ext W W' → s.post enc Try.prog fn false true false false W args (.bool true) W') :
    Calls Try.prog f args W fun e W' => ∃ v, e = .returned v ∧ s.post enc Try.prog fn false true false false W args v W' := by
  obtain ⟨p, q, hA, hV, rfl, hfz, hnd⟩ := hW
  rw [hp] at hA
  obtain ⟨xs, hS, hR⟩ := readAll (b0 := base) hr h (fun j t v h1 h2 => hval j t v (by rw [← Array.getElem?_toList, hp]; exact h1) (by rw [← Array.getElem?_toList]; exact h2)) hA
  have hc := hS W (Old W) args.toList (fun b hb => hb) (fun e he => by cases he) .nil hR
  rw [Array.toArray_toList] at hc
  refine hc.mono ?_
  rintro e W' ⟨u, r, H', R', rfl, ⟨rfl, rfl⟩, hs, hv⟩
  obtain rfl := hv.val_inv
  exact ⟨_, rfl, post W' (hs.mods.mono fun b _ ⟨e, he, _⟩ => by cases he)⟩
end Go.Proofs.Ytochjihddnkhcaa.A

namespace Go.Proofs.Ytochjihddnkhcaa.LaB
open Go.ChangeShapes Go.WideShapes Go.ChangeAt Go.RowKit L A By
set_option linter.unusedVariables false
set_option maxRecDepth 20000

theorem contract (H : Type) (enc : TypeId × Value → H) (W : World) (base : Nat) (args : Array Value) (ds gs : List (DataW H)) (before : List MemPlace)
    (hval : ∀ (j : Nat) t v, Try.f4.params[j]? = some t → args[j]? = some v → Value.okWide Try.prog W .any base t v)
    (hW : DataW.Whole enc Try.prog Try.f4.params.toList Rows.aesBitsSpec.vars false W args.toList ds gs before) :
    Calls Try.prog 4 args W fun e W' => ∃ v, e = .returned v ∧ Rows.aesBitsSpec.post enc Try.prog Try.f4 false true false false W args v W' := by
  have hW' := hW
  obtain ⟨p, q, hA0, hV, rfl, hfz, hnd⟩ := hW
  have hA : DataW.TrodAll enc Try.prog W 0 (fun _ => true) true Try.f4.params.toList args.toList ds p := hA0
  rw [Try.params4] at hA
  obtain ⟨v0, vs0, d0, ds0, p0, q0, ha0, rfl, hp0, h0, r0⟩ := trodAll_cons hA
  obtain ⟨v1, vs1, d1, ds1, p1, q1, ha1, rfl, hp1, h1, r1⟩ := trodAll_cons r0
  obtain ⟨v2, vs2, d2, ds2, p2, q2, ha2, rfl, hp2, h2, r2⟩ := trodAll_cons r1
  obtain ⟨-, rfl, -⟩ := trodAll_nil r2
  obtain ⟨rfl, rfl⟩ := trodVars_none hV
  refine law_contract enc (ts := [3, 3, 3]) (by rw [Try.params4]) (ReadsL.cons (Reads.int Try.underlying3 (by kernel_rfl)) (ReadsL.cons (Reads.int Try.underlying3 (by kernel_rfl)) (ReadsL.cons (Reads.int Try.underlying3 (by kernel_rfl)) (ReadsL.nil)))) (φs := [_, _, _]) ?_ hval hW' (fun W' hE => lawPost hW' rfl rfl rfl Try.underlying4 (by rw [Try.params4]; decide) hE)
  rintro _ ⟨x0, h0, rfl⟩ _ ⟨x1, h1, rfl⟩ _ ⟨x2, h2, rfl⟩
  exact lawBits_fn x0 x1 x2

set_option maxRecDepth 100000 in
theorem lifted (os : Os) (started : os.Started) (H : Type) (enc : TypeId × Value → H) :
    ReturnsInHanded {} Try.checked os 4 .any (Rows.aesBitsSpec.pre6 enc Try.prog Try.f4 Rows.aesBitsRow.domain false) (Rows.aesBitsSpec.post enc Try.prog Try.f4 false true false false) := by
  refine returnsInHanded_of_change (C := Try.checked) own started (by kernel_rfl) Try.func4
    (ChangeSpec.witness6 (enc := enc) (C := Try.checked) false ⟨#[], #[.int .i64 0, .int .i64 0, .int .i64 0], []⟩ 8 (by kernel_rfl) (by kernel_rfl) (by kernel_rfl) (by kernel_rfl)) ?_
  intro W base args ds gs before hval hW _ _
  exact contract H enc W base args ds gs before hval hW

theorem over : Rows.aesBitsRow.holds Try.pinned (OpenSpec.ofChange Rows.aesBitsSpec) :=
  OpenClaim.holds_of_wide 4 Try.f4 rfl rfl rfl rfl rfl rfl rfl ⟨rfl, rfl, rfl, rfl, rfl⟩ rfl rfl rfl rfl rfl (by kernel_rfl) Try.func4 (by kernel_rfl)
    (of_decide_eq_true (by kernel_rfl)) (by unfold Func.isWrapper; first | (rw [if_pos (by decide +kernel)]; kernel_rfl) | (rw [if_neg (by decide +kernel)]; exact ⟨rfl, rfl⟩))
    (fun os started H enc _ => lifted os started H enc)
theorem aesBits : Rows.AesBitsSaid := over
end Go.Proofs.Ytochjihddnkhcaa.LaB
