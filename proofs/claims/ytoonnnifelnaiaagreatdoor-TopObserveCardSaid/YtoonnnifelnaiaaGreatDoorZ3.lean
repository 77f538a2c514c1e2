/-
  Texts laid together (part 3): what the statement's walk and plain law need. No condition.
-/
import Derived.ChangeSame
import Derived.JoinedOf
import Derived.JoinedAt
import Derived.RowKit3
import Derived.ReadAgain
import Derived.Deep.Slices
import Derived.ChangeSlices
import Derived.Test.YtoonnnifelnaiaaGreatDoorZ2
namespace Go.Proofs.YtoonnnifelnaiaaGreatDoor.By
open Go.RowKit L A
set_option linter.unusedVariables false
set_option maxRecDepth 20000
set_option linter.unusedSimpArgs false
attribute [local irreducible] AW AQ AO

theorem clone_fn (l : List UInt8) (hl : l.length ≤ 140737488355328) : Sp Tryz.prog 49 [roB l] [] (Is (roB l)) := by
  refine Sp.enter Tryz.func49 rfl _ Tryz.ntmps49 rfl (fun w0 R0 => ?_)
  refine AW.seq ?_
  refine AW.region ?_
  refine AO.op (O.assign rfl rfl) rfl rfl rfl ?_
  refine AO.nil ?_
  refine AQ.thenN ?_
  refine AW.seq ?_
  refine AW.seq ?_
  refine AW.region ?_
  refine AO.op (O.move rfl rfl) rfl rfl rfl ?_
  refine AO.opN (O.eqlNil rfl rfl rfl) rfl rfl rfl ?_
  rintro _ _ ⟨c, rfl, rfl, hnil⟩
  simp only [List.cons_append, List.nil_append]
  refine AO.nil ?_
  refine AQ.thenN ?_
  refine AW.split rfl (fun h => ?_) (fun h => ?_)
  · skip
    obtain rfl : l = [] := List.eq_nil_of_length_eq_zero (hnil (by simp [h]))
    refine AW.seq ?_
    refine AW.region ?_
    refine AO.op (O.assign rfl rfl) rfl rfl rfl ?_
    refine AO.nil ?_
    refine AQ.thenN ?_
    refine AW.ret ?_
    refine AQ.thenR ?_
    refine AQ.g ?_
    refine G.nilRo 2 rfl ?_
    refine AQ.u ?_
    refine AQ.ret1 rfl rfl ⟨_, List.nil_sublist _, .nil⟩ (⟨rfl, rfl⟩)
  · skip
    refine AW.skip ?_
    refine AQ.thenN ?_
    refine AW.seq ?_
    refine AW.region ?_
    refine AO.opRow (O.buildSlice0 rfl) rfl rfl rfl ?_
    intro V hV
    refine AO.op (O.move rfl rfl) rfl rfl rfl ?_
    first | (refine AO.append' (i := 0) rfl rfl rfl rfl (by rfl) (by rfl) rfl rfl rfl (by first | exact SrcA.nil TyD.ax | exact SrcA.ro TyD.ax (by first | rfl | assumption | (simp; done) | (simp; omega)) (Nat.le_of_ble_eq_true rfl) | exact SrcA.blk TyD.ax (by repeat (first | exact List.Mem.head _ | refine List.Mem.tail _ ?_)) (by first | (dsimp only [List.set, List.append, List.cons_append, List.nil_append, roB_cells, roI_cells, roO_cells, splice, ofConst, AV.cells, List.map, List.map_cons, List.map_nil, List.take, List.drop, Nat.zero_add, Nat.add_zero, Nat.reduceAdd, Nat.reduceMul, Nat.zero_mul, Value.cells, List.toList_toArray, zerosA, List.replicate, List.flatten, List.append_nil]; rfl) | (dsimp only [List.set, List.append, List.cons_append, List.nil_append, roB_cells, roI_cells, roO_cells, splice, ofConst, AV.cells, List.map, List.map_cons, List.map_nil, List.take, List.drop, Nat.zero_add, Nat.add_zero, Nat.reduceAdd, Nat.reduceMul, Nat.zero_mul, Value.cells, List.toList_toArray, zerosA, List.replicate, List.flatten, List.append_nil]; done) | rfl) (by first | rfl | (simp; done) | (simp; omega)) | exact SrcA.row TyD.ax (by repeat (first | exact List.Mem.head _ | refine List.Mem.tail _ ?_)) (by first | rfl | (simp; done) | (simp; omega))) (by first | rfl | assumption | (simp [AV.cells, AV.one, *]; done) | (simp [AV.cells, AV.one, roB, roI, roO, show ∀ k z, (Value.int k z).oneCell' = true from fun _ _ => rfl, show ∀ k, (Value.bool k).oneCell' = true from fun _ => rfl, *]; done) | simp [AV.cells, AV.one, Value.oneCell', *]) (by first | (unfold maxLen; omega) | (unfold maxLen; simp only [List.length_take, List.length_drop, List.length_append, List.length_cons, List.length_nil, List.length_set, Nat.zero_add]; omega)) (by first | omega | (simp only [List.length_take, List.length_drop, List.length_append, List.length_cons, List.length_nil, List.length_set, Nat.zero_add]; omega)) (by first | (dsimp only [List.set, List.append, List.cons_append, List.nil_append, roB_cells, roI_cells, roO_cells, splice, ofConst, AV.cells, List.map, List.map_cons, List.map_nil, List.take, List.drop, Nat.zero_add, Nat.add_zero, Nat.reduceAdd, Nat.reduceMul, Nat.zero_mul, Value.cells, List.toList_toArray, zerosA, List.replicate, List.flatten, List.append_nil]; rfl) | (dsimp only [List.set, List.append, List.cons_append, List.nil_append, roB_cells, roI_cells, roO_cells, splice, ofConst, AV.cells, List.map, List.map_cons, List.map_nil, List.take, List.drop, Nat.zero_add, Nat.add_zero, Nat.reduceAdd, Nat.reduceMul, Nat.zero_mul, Value.cells, List.toList_toArray, zerosA, List.replicate, List.flatten, List.append_nil]; done) | rfl) (fun _ => by first | (dsimp only [List.set]; rfl) | (dsimp only [List.set]; done) | rfl) ?_) | (refine AO.append' (i := 1) rfl rfl rfl rfl (by rfl) (by rfl) rfl rfl rfl (by first | exact SrcA.nil TyD.ax | exact SrcA.ro TyD.ax (by first | rfl | assumption | (simp; done) | (simp; omega)) (Nat.le_of_ble_eq_true rfl) | exact SrcA.blk TyD.ax (by repeat (first | exact List.Mem.head _ | refine List.Mem.tail _ ?_)) (by first | (dsimp only [List.set, List.append, List.cons_append, List.nil_append, roB_cells, roI_cells, roO_cells, splice, ofConst, AV.cells, List.map, List.map_cons, List.map_nil, List.take, List.drop, Nat.zero_add, Nat.add_zero, Nat.reduceAdd, Nat.reduceMul, Nat.zero_mul, Value.cells, List.toList_toArray, zerosA, List.replicate, List.flatten, List.append_nil]; rfl) | (dsimp only [List.set, List.append, List.cons_append, List.nil_append, roB_cells, roI_cells, roO_cells, splice, ofConst, AV.cells, List.map, List.map_cons, List.map_nil, List.take, List.drop, Nat.zero_add, Nat.add_zero, Nat.reduceAdd, Nat.reduceMul, Nat.zero_mul, Value.cells, List.toList_toArray, zerosA, List.replicate, List.flatten, List.append_nil]; done) | rfl) (by first | rfl | (simp; done) | (simp; omega)) | exact SrcA.row TyD.ax (by repeat (first | exact List.Mem.head _ | refine List.Mem.tail _ ?_)) (by first | rfl | (simp; done) | (simp; omega))) (by first | rfl | assumption | (simp [AV.cells, AV.one, *]; done) | (simp [AV.cells, AV.one, roB, roI, roO, show ∀ k z, (Value.int k z).oneCell' = true from fun _ _ => rfl, show ∀ k, (Value.bool k).oneCell' = true from fun _ => rfl, *]; done) | simp [AV.cells, AV.one, Value.oneCell', *]) (by first | (unfold maxLen; omega) | (unfold maxLen; simp only [List.length_take, List.length_drop, List.length_append, List.length_cons, List.length_nil, List.length_set, Nat.zero_add]; omega)) (by first | omega | (simp only [List.length_take, List.length_drop, List.length_append, List.length_cons, List.length_nil, List.length_set, Nat.zero_add]; omega)) (by first | (dsimp only [List.set, List.append, List.cons_append, List.nil_append, roB_cells, roI_cells, roO_cells, splice, ofConst, AV.cells, List.map, List.map_cons, List.map_nil, List.take, List.drop, Nat.zero_add, Nat.add_zero, Nat.reduceAdd, Nat.reduceMul, Nat.zero_mul, Value.cells, List.toList_toArray, zerosA, List.replicate, List.flatten, List.append_nil]; rfl) | (dsimp only [List.set, List.append, List.cons_append, List.nil_append, roB_cells, roI_cells, roO_cells, splice, ofConst, AV.cells, List.map, List.map_cons, List.map_nil, List.take, List.drop, Nat.zero_add, Nat.add_zero, Nat.reduceAdd, Nat.reduceMul, Nat.zero_mul, Value.cells, List.toList_toArray, zerosA, List.replicate, List.flatten, List.append_nil]; done) | rfl) (fun _ => by first | (dsimp only [List.set]; rfl) | (dsimp only [List.set]; done) | rfl) ?_) | (refine AO.append' (i := 2) rfl rfl rfl rfl (by rfl) (by rfl) rfl rfl rfl (by first | exact SrcA.nil TyD.ax | exact SrcA.ro TyD.ax (by first | rfl | assumption | (simp; done) | (simp; omega)) (Nat.le_of_ble_eq_true rfl) | exact SrcA.blk TyD.ax (by repeat (first | exact List.Mem.head _ | refine List.Mem.tail _ ?_)) (by first | (dsimp only [List.set, List.append, List.cons_append, List.nil_append, roB_cells, roI_cells, roO_cells, splice, ofConst, AV.cells, List.map, List.map_cons, List.map_nil, List.take, List.drop, Nat.zero_add, Nat.add_zero, Nat.reduceAdd, Nat.reduceMul, Nat.zero_mul, Value.cells, List.toList_toArray, zerosA, List.replicate, List.flatten, List.append_nil]; rfl) | (dsimp only [List.set, List.append, List.cons_append, List.nil_append, roB_cells, roI_cells, roO_cells, splice, ofConst, AV.cells, List.map, List.map_cons, List.map_nil, List.take, List.drop, Nat.zero_add, Nat.add_zero, Nat.reduceAdd, Nat.reduceMul, Nat.zero_mul, Value.cells, List.toList_toArray, zerosA, List.replicate, List.flatten, List.append_nil]; done) | rfl) (by first | rfl | (simp; done) | (simp; omega)) | exact SrcA.row TyD.ax (by repeat (first | exact List.Mem.head _ | refine List.Mem.tail _ ?_)) (by first | rfl | (simp; done) | (simp; omega))) (by first | rfl | assumption | (simp [AV.cells, AV.one, *]; done) | (simp [AV.cells, AV.one, roB, roI, roO, show ∀ k z, (Value.int k z).oneCell' = true from fun _ _ => rfl, show ∀ k, (Value.bool k).oneCell' = true from fun _ => rfl, *]; done) | simp [AV.cells, AV.one, Value.oneCell', *]) (by first | (unfold maxLen; omega) | (unfold maxLen; simp only [List.length_take, List.length_drop, List.length_append, List.length_cons, List.length_nil, List.length_set, Nat.zero_add]; omega)) (by first | omega | (simp only [List.length_take, List.length_drop, List.length_append, List.length_cons, List.length_nil, List.length_set, Nat.zero_add]; omega)) (by first | (dsimp only [List.set, List.append, List.cons_append, List.nil_append, roB_cells, roI_cells, roO_cells, splice, ofConst, AV.cells, List.map, List.map_cons, List.map_nil, List.take, List.drop, Nat.zero_add, Nat.add_zero, Nat.reduceAdd, Nat.reduceMul, Nat.zero_mul, Value.cells, List.toList_toArray, zerosA, List.replicate, List.flatten, List.append_nil]; rfl) | (dsimp only [List.set, List.append, List.cons_append, List.nil_append, roB_cells, roI_cells, roO_cells, splice, ofConst, AV.cells, List.map, List.map_cons, List.map_nil, List.take, List.drop, Nat.zero_add, Nat.add_zero, Nat.reduceAdd, Nat.reduceMul, Nat.zero_mul, Value.cells, List.toList_toArray, zerosA, List.replicate, List.flatten, List.append_nil]; done) | rfl) (fun _ => by first | (dsimp only [List.set]; rfl) | (dsimp only [List.set]; done) | rfl) ?_) | (refine AO.append' (i := 3) rfl rfl rfl rfl (by rfl) (by rfl) rfl rfl rfl (by first | exact SrcA.nil TyD.ax | exact SrcA.ro TyD.ax (by first | rfl | assumption | (simp; done) | (simp; omega)) (Nat.le_of_ble_eq_true rfl) | exact SrcA.blk TyD.ax (by repeat (first | exact List.Mem.head _ | refine List.Mem.tail _ ?_)) (by first | (dsimp only [List.set, List.append, List.cons_append, List.nil_append, roB_cells, roI_cells, roO_cells, splice, ofConst, AV.cells, List.map, List.map_cons, List.map_nil, List.take, List.drop, Nat.zero_add, Nat.add_zero, Nat.reduceAdd, Nat.reduceMul, Nat.zero_mul, Value.cells, List.toList_toArray, zerosA, List.replicate, List.flatten, List.append_nil]; rfl) | (dsimp only [List.set, List.append, List.cons_append, List.nil_append, roB_cells, roI_cells, roO_cells, splice, ofConst, AV.cells, List.map, List.map_cons, List.map_nil, List.take, List.drop, Nat.zero_add, Nat.add_zero, Nat.reduceAdd, Nat.reduceMul, Nat.zero_mul, Value.cells, List.toList_toArray, zerosA, List.replicate, List.flatten, List.append_nil]; done) | rfl) (by first | rfl | (simp; done) | (simp; omega)) | exact SrcA.row TyD.ax (by repeat (first | exact List.Mem.head _ | refine List.Mem.tail _ ?_)) (by first | rfl | (simp; done) | (simp; omega))) (by first | rfl | assumption | (simp [AV.cells, AV.one, *]; done) | (simp [AV.cells, AV.one, roB, roI, roO, show ∀ k z, (Value.int k z).oneCell' = true from fun _ _ => rfl, show ∀ k, (Value.bool k).oneCell' = true from fun _ => rfl, *]; done) | simp [AV.cells, AV.one, Value.oneCell', *]) (by first | (unfold maxLen; omega) | (unfold maxLen; simp only [List.length_take, List.length_drop, List.length_append, List.length_cons, List.length_nil, List.length_set, Nat.zero_add]; omega)) (by first | omega | (simp only [List.length_take, List.length_drop, List.length_append, List.length_cons, List.length_nil, List.length_set, Nat.zero_add]; omega)) (by first | (dsimp only [List.set, List.append, List.cons_append, List.nil_append, roB_cells, roI_cells, roO_cells, splice, ofConst, AV.cells, List.map, List.map_cons, List.map_nil, List.take, List.drop, Nat.zero_add, Nat.add_zero, Nat.reduceAdd, Nat.reduceMul, Nat.zero_mul, Value.cells, List.toList_toArray, zerosA, List.replicate, List.flatten, List.append_nil]; rfl) | (dsimp only [List.set, List.append, List.cons_append, List.nil_append, roB_cells, roI_cells, roO_cells, splice, ofConst, AV.cells, List.map, List.map_cons, List.map_nil, List.take, List.drop, Nat.zero_add, Nat.add_zero, Nat.reduceAdd, Nat.reduceMul, Nat.zero_mul, Value.cells, List.toList_toArray, zerosA, List.replicate, List.flatten, List.append_nil]; done) | rfl) (fun _ => by first | (dsimp only [List.set]; rfl) | (dsimp only [List.set]; done) | rfl) ?_) | (refine AO.append' (i := 4) rfl rfl rfl rfl (by rfl) (by rfl) rfl rfl rfl (by first | exact SrcA.nil TyD.ax | exact SrcA.ro TyD.ax (by first | rfl | assumption | (simp; done) | (simp; omega)) (Nat.le_of_ble_eq_true rfl) | exact SrcA.blk TyD.ax (by repeat (first | exact List.Mem.head _ | refine List.Mem.tail _ ?_)) (by first | (dsimp only [List.set, List.append, List.cons_append, List.nil_append, roB_cells, roI_cells, roO_cells, splice, ofConst, AV.cells, List.map, List.map_cons, List.map_nil, List.take, List.drop, Nat.zero_add, Nat.add_zero, Nat.reduceAdd, Nat.reduceMul, Nat.zero_mul, Value.cells, List.toList_toArray, zerosA, List.replicate, List.flatten, List.append_nil]; rfl) | (dsimp only [List.set, List.append, List.cons_append, List.nil_append, roB_cells, roI_cells, roO_cells, splice, ofConst, AV.cells, List.map, List.map_cons, List.map_nil, List.take, List.drop, Nat.zero_add, Nat.add_zero, Nat.reduceAdd, Nat.reduceMul, Nat.zero_mul, Value.cells, List.toList_toArray, zerosA, List.replicate, List.flatten, List.append_nil]; done) | rfl) (by first | rfl | (simp; done) | (simp; omega)) | exact SrcA.row TyD.ax (by repeat (first | exact List.Mem.head _ | refine List.Mem.tail _ ?_)) (by first | rfl | (simp; done) | (simp; omega))) (by first | rfl | assumption | (simp [AV.cells, AV.one, *]; done) | (simp [AV.cells, AV.one, roB, roI, roO, show ∀ k z, (Value.int k z).oneCell' = true from fun _ _ => rfl, show ∀ k, (Value.bool k).oneCell' = true from fun _ => rfl, *]; done) | simp [AV.cells, AV.one, Value.oneCell', *]) (by first | (unfold maxLen; omega) | (unfold maxLen; simp only [List.length_take, List.length_drop, List.length_append, List.length_cons, List.length_nil, List.length_set, Nat.zero_add]; omega)) (by first | omega | (simp only [List.length_take, List.length_drop, List.length_append, List.length_cons, List.length_nil, List.length_set, Nat.zero_add]; omega)) (by first | (dsimp only [List.set, List.append, List.cons_append, List.nil_append, roB_cells, roI_cells, roO_cells, splice, ofConst, AV.cells, List.map, List.map_cons, List.map_nil, List.take, List.drop, Nat.zero_add, Nat.add_zero, Nat.reduceAdd, Nat.reduceMul, Nat.zero_mul, Value.cells, List.toList_toArray, zerosA, List.replicate, List.flatten, List.append_nil]; rfl) | (dsimp only [List.set, List.append, List.cons_append, List.nil_append, roB_cells, roI_cells, roO_cells, splice, ofConst, AV.cells, List.map, List.map_cons, List.map_nil, List.take, List.drop, Nat.zero_add, Nat.add_zero, Nat.reduceAdd, Nat.reduceMul, Nat.zero_mul, Value.cells, List.toList_toArray, zerosA, List.replicate, List.flatten, List.append_nil]; done) | rfl) (fun _ => by first | (dsimp only [List.set]; rfl) | (dsimp only [List.set]; done) | rfl) ?_) | (refine AO.append' (i := 5) rfl rfl rfl rfl (by rfl) (by rfl) rfl rfl rfl (by first | exact SrcA.nil TyD.ax | exact SrcA.ro TyD.ax (by first | rfl | assumption | (simp; done) | (simp; omega)) (Nat.le_of_ble_eq_true rfl) | exact SrcA.blk TyD.ax (by repeat (first | exact List.Mem.head _ | refine List.Mem.tail _ ?_)) (by first | (dsimp only [List.set, List.append, List.cons_append, List.nil_append, roB_cells, roI_cells, roO_cells, splice, ofConst, AV.cells, List.map, List.map_cons, List.map_nil, List.take, List.drop, Nat.zero_add, Nat.add_zero, Nat.reduceAdd, Nat.reduceMul, Nat.zero_mul, Value.cells, List.toList_toArray, zerosA, List.replicate, List.flatten, List.append_nil]; rfl) | (dsimp only [List.set, List.append, List.cons_append, List.nil_append, roB_cells, roI_cells, roO_cells, splice, ofConst, AV.cells, List.map, List.map_cons, List.map_nil, List.take, List.drop, Nat.zero_add, Nat.add_zero, Nat.reduceAdd, Nat.reduceMul, Nat.zero_mul, Value.cells, List.toList_toArray, zerosA, List.replicate, List.flatten, List.append_nil]; done) | rfl) (by first | rfl | (simp; done) | (simp; omega)) | exact SrcA.row TyD.ax (by repeat (first | exact List.Mem.head _ | refine List.Mem.tail _ ?_)) (by first | rfl | (simp; done) | (simp; omega))) (by first | rfl | assumption | (simp [AV.cells, AV.one, *]; done) | (simp [AV.cells, AV.one, roB, roI, roO, show ∀ k z, (Value.int k z).oneCell' = true from fun _ _ => rfl, show ∀ k, (Value.bool k).oneCell' = true from fun _ => rfl, *]; done) | simp [AV.cells, AV.one, Value.oneCell', *]) (by first | (unfold maxLen; omega) | (unfold maxLen; simp only [List.length_take, List.length_drop, List.length_append, List.length_cons, List.length_nil, List.length_set, Nat.zero_add]; omega)) (by first | omega | (simp only [List.length_take, List.length_drop, List.length_append, List.length_cons, List.length_nil, List.length_set, Nat.zero_add]; omega)) (by first | (dsimp only [List.set, List.append, List.cons_append, List.nil_append, roB_cells, roI_cells, roO_cells, splice, ofConst, AV.cells, List.map, List.map_cons, List.map_nil, List.take, List.drop, Nat.zero_add, Nat.add_zero, Nat.reduceAdd, Nat.reduceMul, Nat.zero_mul, Value.cells, List.toList_toArray, zerosA, List.replicate, List.flatten, List.append_nil]; rfl) | (dsimp only [List.set, List.append, List.cons_append, List.nil_append, roB_cells, roI_cells, roO_cells, splice, ofConst, AV.cells, List.map, List.map_cons, List.map_nil, List.take, List.drop, Nat.zero_add, Nat.add_zero, Nat.reduceAdd, Nat.reduceMul, Nat.zero_mul, Value.cells, List.toList_toArray, zerosA, List.replicate, List.flatten, List.append_nil]; done) | rfl) (fun _ => by first | (dsimp only [List.set]; rfl) | (dsimp only [List.set]; done) | rfl) ?_) | (refine AO.append' (i := 6) rfl rfl rfl rfl (by rfl) (by rfl) rfl rfl rfl (by first | exact SrcA.nil TyD.ax | exact SrcA.ro TyD.ax (by first | rfl | assumption | (simp; done) | (simp; omega)) (Nat.le_of_ble_eq_true rfl) | exact SrcA.blk TyD.ax (by repeat (first | exact List.Mem.head _ | refine List.Mem.tail _ ?_)) (by first | (dsimp only [List.set, List.append, List.cons_append, List.nil_append, roB_cells, roI_cells, roO_cells, splice, ofConst, AV.cells, List.map, List.map_cons, List.map_nil, List.take, List.drop, Nat.zero_add, Nat.add_zero, Nat.reduceAdd, Nat.reduceMul, Nat.zero_mul, Value.cells, List.toList_toArray, zerosA, List.replicate, List.flatten, List.append_nil]; rfl) | (dsimp only [List.set, List.append, List.cons_append, List.nil_append, roB_cells, roI_cells, roO_cells, splice, ofConst, AV.cells, List.map, List.map_cons, List.map_nil, List.take, List.drop, Nat.zero_add, Nat.add_zero, Nat.reduceAdd, Nat.reduceMul, Nat.zero_mul, Value.cells, List.toList_toArray, zerosA, List.replicate, List.flatten, List.append_nil]; done) | rfl) (by first | rfl | (simp; done) | (simp; omega)) | exact SrcA.row TyD.ax (by repeat (first | exact List.Mem.head _ | refine List.Mem.tail _ ?_)) (by first | rfl | (simp; done) | (simp; omega))) (by first | rfl | assumption | (simp [AV.cells, AV.one, *]; done) | (simp [AV.cells, AV.one, roB, roI, roO, show ∀ k z, (Value.int k z).oneCell' = true from fun _ _ => rfl, show ∀ k, (Value.bool k).oneCell' = true from fun _ => rfl, *]; done) | simp [AV.cells, AV.one, Value.oneCell', *]) (by first | (unfold maxLen; omega) | (unfold maxLen; simp only [List.length_take, List.length_drop, List.length_append, List.length_cons, List.length_nil, List.length_set, Nat.zero_add]; omega)) (by first | omega | (simp only [List.length_take, List.length_drop, List.length_append, List.length_cons, List.length_nil, List.length_set, Nat.zero_add]; omega)) (by first | (dsimp only [List.set, List.append, List.cons_append, List.nil_append, roB_cells, roI_cells, roO_cells, splice, ofConst, AV.cells, List.map, List.map_cons, List.map_nil, List.take, List.drop, Nat.zero_add, Nat.add_zero, Nat.reduceAdd, Nat.reduceMul, Nat.zero_mul, Value.cells, List.toList_toArray, zerosA, List.replicate, List.flatten, List.append_nil]; rfl) | (dsimp only [List.set, List.append, List.cons_append, List.nil_append, roB_cells, roI_cells, roO_cells, splice, ofConst, AV.cells, List.map, List.map_cons, List.map_nil, List.take, List.drop, Nat.zero_add, Nat.add_zero, Nat.reduceAdd, Nat.reduceMul, Nat.zero_mul, Value.cells, List.toList_toArray, zerosA, List.replicate, List.flatten, List.append_nil]; done) | rfl) (fun _ => by first | (dsimp only [List.set]; rfl) | (dsimp only [List.set]; done) | rfl) ?_) | (refine AO.append' (i := 7) rfl rfl rfl rfl (by rfl) (by rfl) rfl rfl rfl (by first | exact SrcA.nil TyD.ax | exact SrcA.ro TyD.ax (by first | rfl | assumption | (simp; done) | (simp; omega)) (Nat.le_of_ble_eq_true rfl) | exact SrcA.blk TyD.ax (by repeat (first | exact List.Mem.head _ | refine List.Mem.tail _ ?_)) (by first | (dsimp only [List.set, List.append, List.cons_append, List.nil_append, roB_cells, roI_cells, roO_cells, splice, ofConst, AV.cells, List.map, List.map_cons, List.map_nil, List.take, List.drop, Nat.zero_add, Nat.add_zero, Nat.reduceAdd, Nat.reduceMul, Nat.zero_mul, Value.cells, List.toList_toArray, zerosA, List.replicate, List.flatten, List.append_nil]; rfl) | (dsimp only [List.set, List.append, List.cons_append, List.nil_append, roB_cells, roI_cells, roO_cells, splice, ofConst, AV.cells, List.map, List.map_cons, List.map_nil, List.take, List.drop, Nat.zero_add, Nat.add_zero, Nat.reduceAdd, Nat.reduceMul, Nat.zero_mul, Value.cells, List.toList_toArray, zerosA, List.replicate, List.flatten, List.append_nil]; done) | rfl) (by first | rfl | (simp; done) | (simp; omega)) | exact SrcA.row TyD.ax (by repeat (first | exact List.Mem.head _ | refine List.Mem.tail _ ?_)) (by first | rfl | (simp; done) | (simp; omega))) (by first | rfl | assumption | (simp [AV.cells, AV.one, *]; done) | (simp [AV.cells, AV.one, roB, roI, roO, show ∀ k z, (Value.int k z).oneCell' = true from fun _ _ => rfl, show ∀ k, (Value.bool k).oneCell' = true from fun _ => rfl, *]; done) | simp [AV.cells, AV.one, Value.oneCell', *]) (by first | (unfold maxLen; omega) | (unfold maxLen; simp only [List.length_take, List.length_drop, List.length_append, List.length_cons, List.length_nil, List.length_set, Nat.zero_add]; omega)) (by first | omega | (simp only [List.length_take, List.length_drop, List.length_append, List.length_cons, List.length_nil, List.length_set, Nat.zero_add]; omega)) (by first | (dsimp only [List.set, List.append, List.cons_append, List.nil_append, roB_cells, roI_cells, roO_cells, splice, ofConst, AV.cells, List.map, List.map_cons, List.map_nil, List.take, List.drop, Nat.zero_add, Nat.add_zero, Nat.reduceAdd, Nat.reduceMul, Nat.zero_mul, Value.cells, List.toList_toArray, zerosA, List.replicate, List.flatten, List.append_nil]; rfl) | (dsimp only [List.set, List.append, List.cons_append, List.nil_append, roB_cells, roI_cells, roO_cells, splice, ofConst, AV.cells, List.map, List.map_cons, List.map_nil, List.take, List.drop, Nat.zero_add, Nat.add_zero, Nat.reduceAdd, Nat.reduceMul, Nat.zero_mul, Value.cells, List.toList_toArray, zerosA, List.replicate, List.flatten, List.append_nil]; done) | rfl) (fun _ => by first | (dsimp only [List.set]; rfl) | (dsimp only [List.set]; done) | rfl) ?_) | (refine AO.append' (i := 8) rfl rfl rfl rfl (by rfl) (by rfl) rfl rfl rfl (by first | exact SrcA.nil TyD.ax | exact SrcA.ro TyD.ax (by first | rfl | assumption | (simp; done) | (simp; omega)) (Nat.le_of_ble_eq_true rfl) | exact SrcA.blk TyD.ax (by repeat (first | exact List.Mem.head _ | refine List.Mem.tail _ ?_)) (by first | (dsimp only [List.set, List.append, List.cons_append, List.nil_append, roB_cells, roI_cells, roO_cells, splice, ofConst, AV.cells, List.map, List.map_cons, List.map_nil, List.take, List.drop, Nat.zero_add, Nat.add_zero, Nat.reduceAdd, Nat.reduceMul, Nat.zero_mul, Value.cells, List.toList_toArray, zerosA, List.replicate, List.flatten, List.append_nil]; rfl) | (dsimp only [List.set, List.append, List.cons_append, List.nil_append, roB_cells, roI_cells, roO_cells, splice, ofConst, AV.cells, List.map, List.map_cons, List.map_nil, List.take, List.drop, Nat.zero_add, Nat.add_zero, Nat.reduceAdd, Nat.reduceMul, Nat.zero_mul, Value.cells, List.toList_toArray, zerosA, List.replicate, List.flatten, List.append_nil]; done) | rfl) (by first | rfl | (simp; done) | (simp; omega)) | exact SrcA.row TyD.ax (by repeat (first | exact List.Mem.head _ | refine List.Mem.tail _ ?_)) (by first | rfl | (simp; done) | (simp; omega))) (by first | rfl | assumption | (simp [AV.cells, AV.one, *]; done) | (simp [AV.cells, AV.one, roB, roI, roO, show ∀ k z, (Value.int k z).oneCell' = true from fun _ _ => rfl, show ∀ k, (Value.bool k).oneCell' = true from fun _ => rfl, *]; done) | simp [AV.cells, AV.one, Value.oneCell', *]) (by first | (unfold maxLen; omega) | (unfold maxLen; simp only [List.length_take, List.length_drop, List.length_append, List.length_cons, List.length_nil, List.length_set, Nat.zero_add]; omega)) (by first | omega | (simp only [List.length_take, List.length_drop, List.length_append, List.length_cons, List.length_nil, List.length_set, Nat.zero_add]; omega)) (by first | (dsimp only [List.set, List.append, List.cons_append, List.nil_append, roB_cells, roI_cells, roO_cells, splice, ofConst, AV.cells, List.map, List.map_cons, List.map_nil, List.take, List.drop, Nat.zero_add, Nat.add_zero, Nat.reduceAdd, Nat.reduceMul, Nat.zero_mul, Value.cells, List.toList_toArray, zerosA, List.replicate, List.flatten, List.append_nil]; rfl) | (dsimp only [List.set, List.append, List.cons_append, List.nil_append, roB_cells, roI_cells, roO_cells, splice, ofConst, AV.cells, List.map, List.map_cons, List.map_nil, List.take, List.drop, Nat.zero_add, Nat.add_zero, Nat.reduceAdd, Nat.reduceMul, Nat.zero_mul, Value.cells, List.toList_toArray, zerosA, List.replicate, List.flatten, List.append_nil]; done) | rfl) (fun _ => by first | (dsimp only [List.set]; rfl) | (dsimp only [List.set]; done) | rfl) ?_) | (refine AO.append' (i := 9) rfl rfl rfl rfl (by rfl) (by rfl) rfl rfl rfl (by first | exact SrcA.nil TyD.ax | exact SrcA.ro TyD.ax (by first | rfl | assumption | (simp; done) | (simp; omega)) (Nat.le_of_ble_eq_true rfl) | exact SrcA.blk TyD.ax (by repeat (first | exact List.Mem.head _ | refine List.Mem.tail _ ?_)) (by first | (dsimp only [List.set, List.append, List.cons_append, List.nil_append, roB_cells, roI_cells, roO_cells, splice, ofConst, AV.cells, List.map, List.map_cons, List.map_nil, List.take, List.drop, Nat.zero_add, Nat.add_zero, Nat.reduceAdd, Nat.reduceMul, Nat.zero_mul, Value.cells, List.toList_toArray, zerosA, List.replicate, List.flatten, List.append_nil]; rfl) | (dsimp only [List.set, List.append, List.cons_append, List.nil_append, roB_cells, roI_cells, roO_cells, splice, ofConst, AV.cells, List.map, List.map_cons, List.map_nil, List.take, List.drop, Nat.zero_add, Nat.add_zero, Nat.reduceAdd, Nat.reduceMul, Nat.zero_mul, Value.cells, List.toList_toArray, zerosA, List.replicate, List.flatten, List.append_nil]; done) | rfl) (by first | rfl | (simp; done) | (simp; omega)) | exact SrcA.row TyD.ax (by repeat (first | exact List.Mem.head _ | refine List.Mem.tail _ ?_)) (by first | rfl | (simp; done) | (simp; omega))) (by first | rfl | assumption | (simp [AV.cells, AV.one, *]; done) | (simp [AV.cells, AV.one, roB, roI, roO, show ∀ k z, (Value.int k z).oneCell' = true from fun _ _ => rfl, show ∀ k, (Value.bool k).oneCell' = true from fun _ => rfl, *]; done) | simp [AV.cells, AV.one, Value.oneCell', *]) (by first | (unfold maxLen; omega) | (unfold maxLen; simp only [List.length_take, List.length_drop, List.length_append, List.length_cons, List.length_nil, List.length_set, Nat.zero_add]; omega)) (by first | omega | (simp only [List.length_take, List.length_drop, List.length_append, List.length_cons, List.length_nil, List.length_set, Nat.zero_add]; omega)) (by first | (dsimp only [List.set, List.append, List.cons_append, List.nil_append, roB_cells, roI_cells, roO_cells, splice, ofConst, AV.cells, List.map, List.map_cons, List.map_nil, List.take, List.drop, Nat.zero_add, Nat.add_zero, Nat.reduceAdd, Nat.reduceMul, Nat.zero_mul, Value.cells, List.toList_toArray, zerosA, List.replicate, List.flatten, List.append_nil]; rfl) | (dsimp only [List.set, List.append, List.cons_append, List.nil_append, roB_cells, roI_cells, roO_cells, splice, ofConst, AV.cells, List.map, List.map_cons, List.map_nil, List.take, List.drop, Nat.zero_add, Nat.add_zero, Nat.reduceAdd, Nat.reduceMul, Nat.zero_mul, Value.cells, List.toList_toArray, zerosA, List.replicate, List.flatten, List.append_nil]; done) | rfl) (fun _ => by first | (dsimp only [List.set]; rfl) | (dsimp only [List.set]; done) | rfl) ?_)
    intro V hV
    refine AO.op (O.assign rfl rfl) rfl rfl rfl ?_
    refine AO.nil ?_
    refine AQ.thenN ?_
    refine AW.ret ?_
    refine AQ.g ?_
    first | (refine G.freezeRow 0 rfl [2] (by repeat (first | exact frNil | refine frCons rfl ?_)) ?_) | (refine G.freezeRow 1 rfl [2] (by repeat (first | exact frNil | refine frCons rfl ?_)) ?_) | (refine G.freezeRow 2 rfl [2] (by repeat (first | exact frNil | refine frCons rfl ?_)) ?_) | (refine G.freezeRow 3 rfl [2] (by repeat (first | exact frNil | refine frCons rfl ?_)) ?_) | (refine G.freezeRow 4 rfl [2] (by repeat (first | exact frNil | refine frCons rfl ?_)) ?_)
    refine AQ.u ?_
    dsimp only [List.map, List.eraseIdx, List.cons_append, List.nil_append]
    refine AQ.ret1 rfl rfl ⟨_, List.nil_sublist _, .nil⟩ (⟨by simp [roB], rfl⟩)
def reqB (c : Int) : Bool := decide (1 ≤ c ∧ c ≤ 31)
def respB (c : Int) : Bool := decide (64 ≤ c ∧ c ≤ 95 ∨ 128 ≤ c ∧ c ≤ 191)
def SmM (m : Msg) : Prop := m.tok.length ≤ 140737488355328 ∧ m.pay.length ≤ 140737488355328 ∧ m.opts.length ≤ 1000000 ∧ ∀ o ∈ m.opts, o.val.length ≤ 140737488355328
theorem SmM.at {m : Msg} (h : SmM m) {k : Nat} (hk : k < m.opts.length) : (oat m.opts k).val.length ≤ 140737488355328 := h.2.2.2 _ (getD_mem _ hk)
end Go.Proofs.YtoonnnifelnaiaaGreatDoor.By

namespace Go.Proofs.YtoonnnifelnaiaaGreatDoor.By
open Go.RowKit L A
set_option linter.unusedVariables false
set_option maxRecDepth 20000
set_option linter.unusedSimpArgs false
attribute [local irreducible] AW AQ AO
def replyM (m : Msg) (code : Int) (os : List Opt) (pay : List UInt8) : Msg := ⟨if m.ty = 0 then 2 else 1, code, if m.ty = 0 then m.id else 0, m.tok, os, pay⟩
def replyR (m : Msg) (code : Int) (os : List Opt) (pay : List UInt8) : Msg × Int :=
  if ValM m ∧ reqB m.code = true then (if respB code = true ∧ ValM (replyM m code os pay) then (replyM m code os pay, 0) else (Msg.none, 4)) else (Msg.none, 1)
abbrev resM (r : Msg × Int) : AV := .tup [aggM r.1, .val (.int .i64 r.2)]
end Go.Proofs.YtoonnnifelnaiaaGreatDoor.By

namespace Go.Proofs.YtoonnnifelnaiaaGreatDoor.By
open Go.RowKit L A
set_option linter.unusedVariables false
set_option maxRecDepth 20000
set_option linter.unusedSimpArgs false
attribute [local irreducible] AW AQ AO
def BdM (m : Msg) : Prop := m.tok.length ≤ 140737488355328 ∧ m.opts.length ≤ 140737488355328 ∧ m.pay.length ≤ 140737488355328
theorem isNone (m : Msg) : m = Msg.none ↔ m.ty = 0 ∧ m.code = 0 ∧ m.id = 0 ∧ m.tok.length + m.opts.length + m.pay.length = 0 := by
  obtain ⟨a, b, c, d, e, f⟩ := m
  unfold Msg.none
  simp only [Msg.mk.injEq]
  constructor
  · rintro ⟨rfl, rfl, rfl, rfl, rfl, rfl⟩; simp
  · rintro ⟨h1, h2, h3, h4⟩; exact ⟨h1, h2, h3, List.eq_nil_of_length_eq_zero (by omega), List.eq_nil_of_length_eq_zero (by omega), List.eq_nil_of_length_eq_zero (by omega)⟩
end Go.Proofs.YtoonnnifelnaiaaGreatDoor.By

namespace Go.Proofs.YtoonnnifelnaiaaGreatDoor.By
open Go.RowKit L A
set_option linter.unusedVariables false
set_option maxRecDepth 20000
set_option linter.unusedSimpArgs false
attribute [local irreducible] AW AQ AO
abbrev chW (w : Wt) : Bool := !decide (PeerOk w.peer) || w.m.ty != 0 || !decide (ValM w.m) || decide (w.due < 0) || decide (w.sent < 1) || decide (5 < w.sent)
theorem ValM.id {m : Msg} (h : ValM m) : 0 ≤ m.id ∧ m.id ≤ 65535 := by
  obtain ⟨⟨-, ⟨h1, h2, -, -⟩, -⟩, -⟩ := h
  exact ⟨h1, h2⟩
theorem OkW.in {w : Wt} (h : OkW w) : In w.peer ∧ In w.m.id := by
  obtain ⟨h1, -, h3, -⟩ := h
  have := ValM.id h3
  unfold In; omega
abbrev chH (h : Hd) : Bool := !decide (PeerOk h.peer) || !decide (IdOk h.id) || decide (h.till < 0)
abbrev OkH0 (h : Hd) : Prop := PeerOk h.peer ∧ IdOk h.id ∧ 0 ≤ h.till
theorem OkH0.in {h : Hd} (hh : OkH0 h) : In h.peer ∧ In h.id := by
  obtain ⟨h1, h2, -⟩ := hh
  unfold In; omega
end Go.Proofs.YtoonnnifelnaiaaGreatDoor.By

namespace Go.Proofs.YtoonnnifelnaiaaGreatDoor.By
open Go.RowKit L A
set_option linter.unusedVariables false
set_option maxRecDepth 20000
set_option linter.unusedSimpArgs false
attribute [local irreducible] AW AQ AO
def BdE (e : Ep) : Prop := e.out.length ≤ 140737488355328 ∧ e.used.length ≤ 140737488355328 ∧ e.inn.length ≤ 140737488355328 ∧ ∀ h ∈ e.inn, BdM h.m
abbrev UOkTo (l : List Us) (k : Nat) : Prop := ∀ u ∈ l.take k, OkU u
theorem UOkTo.succ {l : List Us} {k : Nat} (h : k < l.length) : UOkTo l (k + 1) ↔ UOkTo l k ∧ OkU (us l k) := mem_take_snoc Us.none h OkU
theorem UOkTo.mono {l : List Us} {k : Nat} (hh : UOkTo l l.length) : UOkTo l k := fun w hw => hh w (by rw [List.take_length]; exact List.mem_of_mem_take hw)
abbrev chU (u : Us) : Bool := !decide (PeerOk u.peer) || !decide (IdOk u.id) || decide (u.till < 0)
end Go.Proofs.YtoonnnifelnaiaaGreatDoor.By

namespace Go.Proofs.YtoonnnifelnaiaaGreatDoor.By
open Go.RowKit L A
set_option linter.unusedVariables false
set_option maxRecDepth 20000
set_option linter.unusedSimpArgs false
attribute [local irreducible] AW AQ AO
end Go.Proofs.YtoonnnifelnaiaaGreatDoor.By

namespace Go.Proofs.YtoonnnifelnaiaaGreatDoor.By
open Go.RowKit L A
set_option linter.unusedVariables false
set_option maxRecDepth 20000
set_option linter.unusedSimpArgs false
attribute [local irreducible] AW AQ AO
abbrev zO : Value := .agg #[.int .i64 0, .slice none 0 0]
def zOpts (n : Nat) : List AV := zerosA n zO
end Go.Proofs.YtoonnnifelnaiaaGreatDoor.By

namespace Go.Proofs.YtoonnnifelnaiaaGreatDoor.By
open Go.RowKit L A
set_option linter.unusedVariables false
set_option maxRecDepth 20000
set_option linter.unusedSimpArgs false
attribute [local irreducible] AW AQ AO
def liveU (now : Int) (u : Us) : Bool := decide (now < u.till)
def liveH (now : Int) (h : Hd) : Bool := decide (now < h.till)
def cleanE (e : Ep) (now : Int) : Ep := ⟨e.next, e.out, e.used.filter (liveU now), e.inn.filter (liveH now)⟩
structure SmE (e : Ep) : Prop where
  o : e.out.length ≤ 1000
  u : e.used.length ≤ 1000
  i : e.inn.length ≤ 1000
  om : ∀ w ∈ e.out, SmM w.m
  im : ∀ h ∈ e.inn, SmM h.m
/-- An endpoint whose lists are rows of the caller's own. -/
def NewE (e : Ep) (r : AV) (Hn : List HE) : Prop := ∃ V1 V2 V3 : Value, V1.oneCell' = true ∧ V2.oneCell' = true ∧ V3.oneCell' = true ∧ r = .agg [.val (.int .i64 e.next), .val V1, .val V2, .val V3] ∧
  Hn = [.row V3 126 10 e.inn.length (hdsA e.inn), .row V2 122 3 e.used.length (ussA e.used), .row V1 78 9 e.out.length (wtsA e.out)]
abbrev nilS : Value := .slice none 0 0
end Go.Proofs.YtoonnnifelnaiaaGreatDoor.By

namespace Go.Proofs.YtoonnnifelnaiaaGreatDoor.By
open Go.RowKit L A
set_option linter.unusedVariables false
set_option maxRecDepth 20000
set_option linter.unusedSimpArgs false
attribute [local irreducible] AW AQ AO
end Go.Proofs.YtoonnnifelnaiaaGreatDoor.By

namespace Go.Proofs.YtoonnnifelnaiaaGreatDoor.A
open Go.RowKit L
set_option linter.unusedVariables false
set_option maxRecDepth 20000
set_option linter.unusedSimpArgs false
section
variable {Γ : Cx} {P : Program} {Q : Exit → Act → World → Prop} {E : Env} {H : List HE} {N : Nat} {o : Oper} {ops : Array Oper} {rest : List Oper}

/-- Values that hold no memory. -/
def Plain (v : AV) : Prop := (∃ c, v = .val c) ∨ ∃ xs, v = .agg xs ∧ ∀ x ∈ xs, ∃ c, x = .val c
theorem Plain.val {c : Value} : Plain (.val c) := .inl ⟨c, rfl⟩
theorem Plain.rel {v : AV} (h : Plain v) {R R' : Nat → Prop} {W W' : World} {u : Value} (hv : RelV R W v u) : RelV R' W' v u := by
  rcases h with ⟨c, rfl⟩ | ⟨xs, rfl, hx⟩
  · rw [hv.val_inv]; exact .val _
  · cases hv with
    | agg _ cs hs hr =>
      refine .agg _ cs hs fun j hj => ?_
      obtain ⟨c, hc⟩ := hx xs[j] (List.getElem_mem hj)
      have := hr j hj
      rw [hc] at this ⊢
      rw [this.val_inv]; exact .val _

inductive LendB (b : Nat) (ys : List AV) : List AV → List AV → Prop
  | nil : LendB b ys [] []
  | same {a : AV} {r r' : List AV} : LendB b ys r r' → LendB b ys (a :: r) (a :: r')
  | lend {j : Nat} {r r' : List AV} : LendB b ys r r' → LendB b ys (.val (.pointer (some ⟨b, j, none⟩)) :: r) (.rp ys j :: r')
theorem blk_rp {R : Nat → Prop} {W : World} {b T room j : Nat} {xs : List AV} (h : HE.ok R W (.blk b T room xs)) : RelV (fun c => R c ∨ c = b) W (.rp xs j) (.pointer (some ⟨b, j, none⟩)) := by
  have := RelV.rp (R := fun c => R c ∨ c = b) (W := W) xs j b 0 (fun q => (W.cell? ⟨b, 0 + q, none⟩).getD undef) (.inr rfl) (fun q hq => by
    obtain ⟨u, hu, _⟩ := blk_cell h (j := q) (v := xs[q]) (by simp [hq])
    rw [Nat.zero_add, hu]; rfl) (fun q hq => by
    obtain ⟨u, hu, hr⟩ := blk_cell h (j := q) (v := xs[q]) (by simp [hq])
    rw [Nat.zero_add, hu]
    exact hr.mono (fun _ h => .inl h) (fun _ _ => rfl))
  simpa using this
theorem LendB.rel {R : Nat → Prop} {W : World} {b T room : Nat} {xs : List AV} (h : HE.ok R W (.blk b T room xs)) {a a' : List AV} (hl : LendB b xs a a') : ∀ {us : List Value}, RelL R W a us → RelL (fun c => R c ∨ c = b) W a' us := by
  induction hl with
  | nil => intro us h; exact h.mono (fun _ h => .inl h) (fun _ _ => rfl)
  | same _ ih =>
    intro us h
    obtain ⟨u, r, rfl, h1, h2⟩ := h.uncons
    exact RelL.cons (h1.mono (fun _ h => .inl h) (fun _ _ => rfl)) (ih h2)
  | lend _ ih =>
    intro us h'
    obtain ⟨u, r, rfl, h1, h2⟩ := h'.uncons
    rw [h1.val_inv]
    exact RelL.cons (blk_rp h) (ih h2)
end

/-! Bytes told by a function of their place. -/
def fnB (n : Nat) (f : Nat → UInt8) : List UInt8 := (List.range n).map f
def arB (n : Nat) (f : Nat → UInt8) : List AV := bytesA (fnB n f)
end Go.Proofs.YtoonnnifelnaiaaGreatDoor.A

namespace Go.Proofs.YtoonnnifelnaiaaGreatDoor.A
open Go.RowKit L
section
variable {Γ : Cx} {P : Program} {E : Env} {H : List HE} {N : Nat} {o : Oper}
def PlainP (Post : AV → List HE → Prop) : Prop := ∀ r Hn, Post r Hn → (∀ (R R' : Nat → Prop) W u, RelV R W r u → RelV R' W r u) ∧ ∀ e ∈ Hn, ∀ (R R' : Nat → Prop) W, HE.ok R W e → HE.ok R' W e
end
end Go.Proofs.YtoonnnifelnaiaaGreatDoor.A

namespace Go.Proofs.YtoonnnifelnaiaaGreatDoor.A
open Go.RowKit L
section
variable {Γ : Cx} {P : Program} {E : Env} {H : List HE} {N : Nat} {o : Oper}
inductive LendX (H : List HE) : List AV → List AV → Prop
  | nil : LendX H [] []
  | same {a : AV} {r r' : List AV} : LendX H r r' → LendX H (a :: r) (a :: r')
  | row {v : Value} {T sz n : Nat} {rs r r' : List AV} (i : Nat) (hi : H[i]? = some (.row v T sz n rs)) : LendX H r r' → LendX H (.val v :: r) (.ro false n rs :: r')
  | agg {xs xs' r r' : List AV} : LendX H xs xs' → LendX H r r' → LendX H (.agg xs :: r) (.agg xs' :: r')
theorem LendX.rel {R : Nat → Prop} {W : World} (hok : ∀ e ∈ H, e.ok R W) {a a' : List AV} (h : LendX H a a') : ∀ {us : List Value}, RelL R W a us → RelL (fun b => R b ∨ ∃ e ∈ H, e.foot b) W a' us := by
  induction h with
  | nil => intro us h; exact h.mono (fun _ h => .inl h) (fun _ _ => rfl)
  | same _ ih =>
    intro us h
    obtain ⟨u, r, rfl, h1, h2⟩ := h.uncons
    exact RelL.cons (h1.mono (fun _ h => .inl h) (fun _ _ => rfl)) (ih h2)
  | row i hi _ ih =>
    intro us h
    obtain ⟨u, r, rfl, h1, h2⟩ := h.uncons
    have := h1.val_inv
    subst this
    have hm := List.mem_of_getElem? hi
    exact RelL.cons ((row_ro (hok _ hm)).mono (fun b hb => hb.elim .inl fun hf => .inr ⟨_, hm, hf⟩) (fun _ _ => rfl)) (ih h2)
  | agg _ _ ih1 ih2 =>
    intro us h
    obtain ⟨u, r, rfl, h1, h2⟩ := h.uncons
    obtain ⟨vs, rfl, hv⟩ := h1.agg_inv
    exact RelL.cons (ih1 hv).toAgg (ih2 h2)
end
end Go.Proofs.YtoonnnifelnaiaaGreatDoor.A

namespace Go.Proofs.YtoonnnifelnaiaaGreatDoor.By
open Go.RowKit L A
set_option linter.unusedVariables false
set_option maxRecDepth 20000
set_option linter.unusedSimpArgs false
attribute [local irreducible] AW AQ AO
def uB (peer id : Int) (u : Us) : Bool := u.peer == peer && u.id == id
def wB (peer id : Int) (w : Wt) : Bool := w.peer == peer && w.m.id == id
def takenB (out : List Wt) (used : List Us) (peer id : Int) : Bool := used.any (uB peer id) || out.any (wB peer id)
def freeK (out : List Wt) (used : List Us) (peer next : Int) : Nat := ((List.range 64).find? fun k : Nat => !takenB out used peer ((next + (k : Int)) % 65536)).getD 0
def freeI (out : List Wt) (used : List Us) (peer next : Int) : Int := (next + (freeK out used peer next : Int)) % 65536
end Go.Proofs.YtoonnnifelnaiaaGreatDoor.By

namespace Go.Proofs.YtoonnnifelnaiaaGreatDoor.By
open Go.RowKit L A
set_option linter.unusedVariables false
set_option maxRecDepth 20000
set_option linter.unusedSimpArgs false
attribute [local irreducible] AW AQ AO
def CmpW (l : List Wt) : Prop := l.length ≤ 1000000 ∧ ∀ w ∈ l, w.m.opts.length ≤ 140737488355328
structure CmpE (e : Ep) : Prop where
  o : CmpW e.out
  u : e.used.length ≤ 1000000
  i : e.inn.length ≤ 1000000
  m : ∀ h ∈ e.inn, h.m.opts.length ≤ 140737488355328
end Go.Proofs.YtoonnnifelnaiaaGreatDoor.By

namespace Go.Proofs.YtoonnnifelnaiaaGreatDoor.By
open Go.RowKit L A
set_option linter.unusedVariables false
set_option maxRecDepth 20000
set_option linter.unusedSimpArgs false
attribute [local irreducible] AW AQ AO
abbrev SendOk (e : Ep) (p : Int) (m : Msg) (now : Int) : Prop := ValE e ∧ TimeOk now ∧ PeerOk p ∧ ValM m ∧ (m.ty = 0 ∨ m.ty = 1)
abbrev SendFull (c : Ep) (m : Msg) : Prop := 32 ≤ c.used.length ∨ (m.ty = 0 ∧ 16 ≤ c.out.length)
def sentE (c : Ep) (p : Int) (m : Msg) (now id : Int) : Ep := ⟨(id + 1) % 65536, if m.ty = 0 then c.out ++ [⟨p, { m with id := id }, now + 2, 1⟩] else c.out, c.used ++ [⟨p, id, now + 128⟩], c.inn⟩
def sendR (e : Ep) (p : Int) (m : Msg) (now : Int) : Ep × Msg × Int :=
  if SendOk e p m now then
    if SendFull (cleanE e now) m then (Ep.none, Msg.none, 16)
    else (sentE (cleanE e now) p m now (freeI (cleanE e now).out (cleanE e now).used p e.next), { m with id := freeI (cleanE e now).out (cleanE e now).used p e.next }, 0)
  else (Ep.none, Msg.none, 1)
abbrev resS (r : Ep × Msg × Int) : AV := .tup [aggE r.1, aggM r.2.1, .val (.int .i64 r.2.2)]
end Go.Proofs.YtoonnnifelnaiaaGreatDoor.By

namespace Go.Proofs.YtoonnnifelnaiaaGreatDoor.By
open Go.RowKit L A
set_option linter.unusedVariables false
set_option maxRecDepth 20000
set_option linter.unusedSimpArgs false
attribute [local irreducible] AW AQ AO
end Go.Proofs.YtoonnnifelnaiaaGreatDoor.By

namespace Go.Proofs.YtoonnnifelnaiaaGreatDoor.By
open Go.RowKit L A
set_option linter.unusedVariables false
set_option maxRecDepth 20000
set_option linter.unusedSimpArgs false
attribute [local irreducible] AW AQ AO
def pw (s : Int) : Int := 2 * 2 ^ s.toNat
def bumpW (now : Int) (w : Wt) : Wt := ⟨w.peer, w.m, now + pw w.sent, w.sent + 1⟩
def stayF (now : Int) (w : Wt) : Option Wt := if now < w.due then some w else if w.sent ≤ 4 then some (bumpW now w) else none
def againF (now : Int) (w : Wt) : Option Wt := if now < w.due then none else if w.sent ≤ 4 then some (bumpW now w) else none
def overF (now : Int) (w : Wt) : Option Wt := if now < w.due then none else if w.sent ≤ 4 then none else some w
def tickR (e : Ep) (now : Int) : Ep × List Wt × List Wt × Int :=
  if ValE e ∧ TimeOk now then (⟨e.next, e.out.filterMap (stayF now), (cleanE e now).used, (cleanE e now).inn⟩, e.out.filterMap (againF now), e.out.filterMap (overF now), 0) else (Ep.none, [], [], 1)
abbrev resT (r : Ep × List Wt × List Wt × Int) : AV := .tup [aggE r.1, roW r.2.1, roW r.2.2.1, .val (.int .i64 r.2.2.2)]
end Go.Proofs.YtoonnnifelnaiaaGreatDoor.By

namespace Go.Proofs.YtoonnnifelnaiaaGreatDoor.By
open Go.RowKit L A
set_option linter.unusedVariables false
set_option maxRecDepth 20000
set_option linter.unusedSimpArgs false
attribute [local irreducible] AW AQ AO
def hB (peer id : Int) (h : Hd) : Bool := h.peer == peer && h.id == id
def endR (c : Ep) (p : Int) (m : Msg) : Ep × Int × Msg × Int := match c.out.findIdx? (wB p m.id) with
  | some i => (⟨c.next, c.out.eraseIdx i, c.used, c.inn⟩, if m.ty = 3 then 4 else 3, Msg.none, 0)
  | none => (c, 5, Msg.none, 0)
/-- The caller's row of what waits is given along. -/
def EndP (c : Ep) (p : Int) (m : Msg) (x2 x3 : AV) : AV → List HE → Prop := fun r H' => ∃ V : Value, V.oneCell' = true ∧
  r = .tup [.agg [.val (.int .i64 c.next), .val V, x2, x3], .val (.int .i64 (endR c p m).2.1), aggM Msg.none, .val (.int .i64 0)] ∧ H' = [.row V 78 9 (endR c p m).1.out.length (wtsA (endR c p m).1.out)]
end Go.Proofs.YtoonnnifelnaiaaGreatDoor.By

namespace Go.Proofs.YtoonnnifelnaiaaGreatDoor.By
open Go.RowKit L A
set_option linter.unusedVariables false
set_option maxRecDepth 20000
set_option linter.unusedSimpArgs false
attribute [local irreducible] AW AQ AO
abbrev RecvOk (e : Ep) (p : Int) (m : Msg) (now : Int) : Prop := ValE e ∧ TimeOk now ∧ PeerOk p ∧ ValM m
def gotR (c : Ep) (p : Int) (m : Msg) (now : Int) : Ep × Int × Msg × Int := match c.inn.findIdx? (hB p m.id) with
  | some i => (c, 2, (hd c.inn i).m, 0)
  | none => if 16 ≤ c.inn.length then (c, 6, Msg.none, 0) else (⟨c.next, c.out, c.used, c.inn ++ [⟨p, m.id, now + 128, false, Msg.none⟩]⟩, 1, Msg.none, 0)
def recvR (e : Ep) (p : Int) (m : Msg) (now : Int) : Ep × Int × Msg × Int :=
  if RecvOk e p m now then
    if m.ty = 2 ∨ m.ty = 3 then endR (cleanE e now) p m
    else if m.code = 0 then (cleanE e now, 5, if m.ty = 0 then ⟨3, 0, m.id, [], [], []⟩ else Msg.none, 0)
    else gotR (cleanE e now) p m now
  else (Ep.none, 0, Msg.none, 1)
abbrev resV (r : Ep × Int × Msg × Int) : AV := .tup [aggE r.1, .val (.int .i64 r.2.1), aggM r.2.2.1, .val (.int .i64 r.2.2.2)]
end Go.Proofs.YtoonnnifelnaiaaGreatDoor.By

namespace Go.Proofs.YtoonnnifelnaiaaGreatDoor.By
open Go.RowKit L A
set_option linter.unusedVariables false
set_option maxRecDepth 20000
set_option linter.unusedSimpArgs false
attribute [local irreducible] AW AQ AO
end Go.Proofs.YtoonnnifelnaiaaGreatDoor.By

namespace Go.Proofs.YtoonnnifelnaiaaGreatDoor.By
open Go.RowKit L A
set_option linter.unusedVariables false
set_option maxRecDepth 20000
set_option linter.unusedSimpArgs false
attribute [local irreducible] AW AQ AO
abbrev ackM (m : Msg) (id : Int) : Msg := ⟨2, m.code, id, m.tok, m.opts, m.pay⟩
def answerR (e : Ep) (p id : Int) (m : Msg) (now : Int) : Ep × Msg × Int :=
  if RecvOk e p (ackM m id) now then
    match (cleanE e now).inn.findIdx? (hB p id) with
    | some i => if (hd (cleanE e now).inn i).ans = true then (Ep.none, Msg.none, 15)
      else (⟨e.next, e.out, (cleanE e now).used, (cleanE e now).inn.set i { hd (cleanE e now).inn i with ans := true, m := ackM m id }⟩, ackM m id, 0)
    | none => (Ep.none, Msg.none, 10)
  else (Ep.none, Msg.none, 1)
end Go.Proofs.YtoonnnifelnaiaaGreatDoor.By

namespace Go.Proofs.YtoonnnifelnaiaaGreatDoor.By
open Go.RowKit L A
set_option linter.unusedVariables false
set_option maxRecDepth 20000
set_option linter.unusedSimpArgs false
attribute [local irreducible] AW AQ AO
structure TinyE (e : Ep) : Prop where
  o : e.out.length ≤ 100
  u : e.used.length ≤ 100
  i : e.inn.length ≤ 100
  om : ∀ w ∈ e.out, SmM w.m
  im : ∀ h ∈ e.inn, SmM h.m
theorem SmM.bd {m : Msg} (h : SmM m) : BdM m := ⟨h.1, Nat.le_trans h.2.2.1 (by omega), h.2.1⟩
theorem SmE.bd {e : Ep} (h : SmE e) : BdE e := ⟨Nat.le_trans h.o (by omega), Nat.le_trans h.u (by omega), Nat.le_trans h.i (by omega), fun x hx => (h.im x hx).bd⟩
theorem SmM.op {m : Msg} (h : SmM m) : m.opts.length ≤ 140737488355328 := Nat.le_trans h.2.2.1 (by omega)
/-! ### The example -/
def x1 : Ep × Msg × Int := sendR ⟨5, [], [], []⟩ 1 ⟨0, 1, 0, [], [], []⟩ 0
def x2 : Ep × List Wt × List Wt × Int := tickR ⟨6, [⟨1, ⟨0, 1, 5, [], [], []⟩, 2, 1⟩], [⟨1, 5, 128⟩], []⟩ 2
def x3 : Ep × Int × Msg × Int := recvR ⟨6, [⟨1, ⟨0, 1, 5, [], [], []⟩, 6, 2⟩], [⟨1, 5, 128⟩], []⟩ 1 ⟨0, 0, 7, [], [], []⟩ 3
end Go.Proofs.YtoonnnifelnaiaaGreatDoor.By

namespace Go.Proofs.YtoonnnifelnaiaaGreatDoor.By
open Go.RowKit L A Dk
set_option linter.unusedVariables false
set_option maxRecDepth 20000
set_option linter.unusedSimpArgs false
attribute [local irreducible] AW AQ AO

/-- Something, and a deck of which more or fewer numbers are taken. -/
def Gen (b : Nat) (l : List Int) (Φ : AV → Prop) : AV → List HE → Prop := fun r H' => Φ r ∧ ∃ k, k ≤ l.length ∧ H' = [deck b l k]
def IsNum (n : Int) (r : AV) : Prop := ∃ z : Int, 0 ≤ z ∧ z < n ∧ r = .val (.int .i64 z)
def IsBytes (n : Nat) (r : AV) : Prop := ∃ x : List UInt8, x.length ≤ n ∧ r = roB x
def Some1 (Φ : AV → Prop) : AV → List HE → Prop := fun r H' => Φ r ∧ H' = []
end Go.Proofs.YtoonnnifelnaiaaGreatDoor.By

namespace Go.Proofs.YtoonnnifelnaiaaGreatDoor.A
open Go.ChangeShapes Go.WideShapes Go.ChangeAt Go.RowKit Go.Deep L
set_option linter.unusedVariables false
set_option maxRecDepth 20000
set_option linter.unusedSimpArgs false

theorem own : ownKnob Tryz.prog.godebug = none := by kernel_rfl
theorem kids : Kids Tryz.prog (· < Tryz.prog.types.size) := kids_rows (by kernel_rfl) (by kernel_rfl)
theorem full : ∀ t e, t < Tryz.prog.types.size → Tryz.prog.underlying t = some (.slice e) → 0 < Tryz.prog.cellsOf e := slices_full_of Tryz.prog (by kernel_rfl)

theorem sameAt_ext {W W' : World} (h : Ext W W') (p : MemPlace) (hp : p.block < W.heap.size) : W.sameAt W' p := by
  have hb : W'.heap[p.block]? = W.heap[p.block]? := h.block _ hp (fun hh => hh)
  cases p with
  | cell b off => exact World.cell?_of_block (w := W) (a := ⟨b, off, none⟩) hb
  | map b => exact hb

section
variable {H : Type} {enc : TypeId × Value → H}
theorem trodAll_carry {P : Program} {W W' : World} {base : Nat} {spare : Nat → Bool} {held : Bool} : ∀ {ts : List TypeId} {vs : List Value} {ds : List (DataW H)} {ps : List MemPlace},
    DataW.TrodAll enc P W base spare held ts vs ds ps → (∀ p ∈ ps, W.sameAt W' p) → DataW.TrodAll enc P W' base spare held ts vs ds ps
  | [], [], [], _, h, _ => h
  | _ :: _, _ :: _, _ :: _, _, ⟨p, q, ⟨n, h1⟩, h2, e⟩, hs => ⟨p, q, ⟨n, DataW.trod_carry n _ _ _ h1 (fun x hx => hs x (by rw [e]; exact List.mem_append_left _ hx))⟩, trodAll_carry h2 (fun x hx => hs x (by rw [e]; exact List.mem_append_right _ hx)), e⟩

/-- A law: it returned true, and nothing that was there has turned. -/
theorem lawPost {fn : Func} {s : ChangeSpec} {W W' : World} {args : Array Value} {ds gs : List (DataW H)} {before : List MemPlace} {bt : TypeId}
    (hW : DataW.Whole enc Tryz.prog fn.params.toList s.vars false W args.toList ds gs before) (hv : s.vars = []) (hfn : s.fn H (ds ++ gs) = { results := [.lit (.bool true)], args := ds }) (hres : fn.resultTypes = #[bt]) (hbt : Tryz.prog.underlying bt = some .bool)
    (hpar : ∀ t ∈ fn.params.toList, t < Tryz.prog.types.size) (hE : Ext W W') : s.post enc Tryz.prog fn false true false false W args (.bool true) W' := by
  have hold : ∀ p ∈ before, (fun b => decide (b < W.heap.size)) p.block = true := fun p hp => by simpa using hW.lt p hp
  have hlt := hW.lt
  have hW' := hW
  obtain ⟨pa, pv, hA, hV, rfl, hz, hn⟩ := hW
  rw [hv] at hV
  obtain ⟨rfl, rfl⟩ := trodVars_none hV
  have hA' : DataW.TrodAll enc Tryz.prog W' 0 (fun _ => true) true fn.params.toList args.toList ds pa := trodAll_carry hA fun p hp => sameAt_ext hE p (hlt p (List.mem_append_left _ hp))
  have hargs : ∀ sp : Nat → Bool, (∀ p ∈ pa ++ [], sp p.block = true) → DataW.TrodAll enc Tryz.prog W' 0 sp true fn.params.toList args.toList ds pa := fun sp hsp =>
    DataW.TrodAll.respare kids full hpar hA' fun p hp => hsp p (by simpa using hp)
  have hres' : ∀ (b : Nat) (sp : Nat → Bool) (hd : Bool), DataW.TrodAll enc Tryz.prog W' b sp hd fn.resultTypes.toList ((Value.bool true).resultList fn.resultTypes.size) [.lit (.bool true)] [] := fun b sp hd => by
    rw [hres]; exact trodAll_cons_mk (shut_bool hbt true) trodAll_mk0
  refine ⟨ds, [], pa ++ [], [], pa, [], hW', by rw [hfn]; exact hres' _ _ _, by rw [hfn]; exact hargs _ hold, by rw [hfn, hv]; rfl, World.keptBut_mono (fun p hp => ⟨hp, ?_⟩) ((hE.toBelow).frame (· ∈ pa ++ [])), fun h => by cases h⟩
  exact Or.inr (by simpa using hp)

/-! ### How arguments read -/

def Old (W : World) : Nat → Prop := fun b => b < W.heap.size

variable {P : Program} {W : World}
/-- A reading of cells of a type as these. -/
theorem rd_int {base : Nat} {spare : Nat → Bool} {held : Bool} {t : TypeId} {k : IntKind} (ht : P.underlying t = some (.int k)) {n : Nat} {cs : List Value} {x : DataW H × List MemPlace} (h : DataW.trod enc P W base spare held n t cs = some x) :
    ∃ z : Int, (Lit.int k z).wf = true ∧ RelL (Old W) W [.val (.int k z)] cs := by
  cases n with
  | zero => simp [DataW.trod] at h
  | succ n =>
    obtain ⟨z, rfl, _, hw⟩ := DataW.trod_int ht h
    exact ⟨z, hw, RelL.cons (.val _) RelL.nil⟩

theorem rd_slice {α : Type} {enc' : α → List AV} {good : α → Prop} {base : Nat} {spare : Nat → Bool} {held : Bool} {t e : TypeId} (ht : P.underlying t = some (.slice e)) (hsz : ∀ a, (enc' a).length = P.cellsOf e) (hpos : 0 < P.cellsOf e)
    (he : ∀ (n : Nat) (cs : List Value) (x : DataW H × List MemPlace), cs.length = P.cellsOf e → DataW.trod enc P W base spare held n e cs = some x → ∃ a, good a ∧ RelL (Old W) W (enc' a) cs)
    {n : Nat} {cs : List Value} {x : DataW H × List MemPlace} (h : DataW.trod enc P W base spare held n t cs = some x) :
    ∃ l : List α, (∀ a ∈ l, good a) ∧ l.length ≤ maxLen ∧ RelL (Old W) W [.ro false l.length (l.flatMap enc')] cs := by
  rcases open_slice ht h with ⟨rfl, -⟩ | ⟨ad, len, cap, m, n', D, Pl, rfl, hb, hl, hm, hmm, hx, hi⟩
  · exact ⟨[], fun _ h => (by cases h), Nat.zero_le _, RelL.cons (.emp _ _ _ (fun h => by cases h) (Nat.zero_le _)) RelL.nil⟩
  · have hlm : len ≤ m := by rw [hmm]; split <;> omega
    have hex : ∀ i : Nat, ∃ a : Option α, i < len → ∃ a', a = some a' ∧ good a' ∧ ∃ cs', W.cells? base (ad.add (i * P.cellsOf e)) (P.cellsOf e) = some cs' ∧ RelL (Old W) W (enc' a') cs' := fun i => by
      by_cases hil : i < len
      · obtain ⟨cs', hc, htr⟩ := hi i (by omega)
        obtain ⟨_, hcl, _⟩ := World.cells?_some hc
        obtain ⟨a, hg, hr⟩ := he _ _ _ hcl htr
        exact ⟨some a, fun _ => ⟨a, rfl, hg, cs', hc, hr⟩⟩
      · exact ⟨none, fun h => absurd h hil⟩
    obtain ⟨f, hf⟩ := Classical.axiomOfChoice hex
    by_cases hlen0 : len = 0
    · subst hlen0
      exact ⟨[], fun _ h => (by cases h), Nat.zero_le _, RelL.cons (.emp _ _ _ (fun h => by cases h) hm) RelL.nil⟩
    · obtain ⟨a0, _, _⟩ := hf 0 (by omega)
      let g : Nat → α := fun i => (f i).getD a0
      have hg : ∀ i, i < len → good (g i) ∧ ∃ cs', W.cells? base (ad.add (i * P.cellsOf e)) (P.cellsOf e) = some cs' ∧ RelL (Old W) W (enc' (g i)) cs' := fun i hi' => by
        obtain ⟨a', ha', h1, h2⟩ := hf i hi'
        have : g i = a' := by simp [g, ha']
        rw [this]; exact ⟨h1, h2⟩
      have hflat : ∀ (len : Nat), (((List.range len).map g).flatMap enc').length = len * P.cellsOf e := by
        intro len
        induction len with
        | zero => simp
        | succ k ih => rw [List.range_succ, List.map_append, List.flatMap_append, List.length_append, ih]; simp [hsz, Nat.add_mul]
      have hflatget : ∀ (len i j : Nat), i < len → j < P.cellsOf e → (((List.range len).map g).flatMap enc')[i * P.cellsOf e + j]? = (enc' (g i))[j]? := by
        intro len
        induction len with
        | zero => intro i j h; omega
        | succ k ih =>
          intro i j h hj
          rw [List.range_succ, List.map_append, List.flatMap_append, List.getElem?_append]
          by_cases hik : i < k
          · have h1 : (i + 1) * P.cellsOf e ≤ k * P.cellsOf e := Nat.mul_le_mul_right _ (by omega)
            rw [Nat.add_mul] at h1
            rw [if_pos (by rw [hflat]; omega)]
            exact ih i j hik hj
          · have : i = k := by omega
            subst this
            rw [if_neg (by rw [hflat]; omega), hflat]
            simp
      have hblk : ad.spot = none ∧ ad.block < W.heap.size := by
        obtain ⟨_, cs', hc, _⟩ := hg 0 (by omega)
        obtain ⟨_, hcl, hat⟩ := World.cells?_some hc
        have h0 := hat 0 hpos
        simp only [Nat.zero_mul] at h0
        have h1 : W.cell? ad ≠ none := by
          intro hn
          rw [show (ad.add 0).add 0 = ad by simp [Addr.add]] at h0
          rw [hn] at h0
          have := (List.getElem?_eq_none_iff.1 h0.symm)
          omega
        refine ⟨?_, ?_⟩
        · cases hsp : ad.spot with
          | none => rfl
          | some _ => exfalso; apply h1; unfold World.cell?; split <;> simp [hsp]
        · cases hc : W.cell? ad with
          | none => exact absurd hc h1
          | some u => exact World.block_lt_of_cell? W ad hc
      obtain ⟨b, off, sp⟩ := ad
      obtain ⟨rfl, hblt⟩ := hblk
      have hcell : ∀ i j, i < len → j < P.cellsOf e → ∃ u, W.cell? ⟨b, off + (i * P.cellsOf e + j), none⟩ = some u ∧ ∃ x, (enc' (g i))[j]? = some x ∧ RelV (Old W) W x u := fun i j hi' hj => by
        obtain ⟨_, cs', hc, hr⟩ := hg i hi'
        obtain ⟨_, hcl, hat⟩ := World.cells?_some hc
        have h0 := hat j hj
        rw [addr_add, addr_add] at h0
        have hjl : j < cs'.length := by omega
        have hjx : j < (enc' (g i)).length := by rw [hsz]; exact hj
        refine ⟨cs'[j], by rw [← Nat.add_assoc, h0]; simp [hjl], (enc' (g i))[j], by simp [hjx], ?_⟩
        have := hr.2 j hjx
        simpa [hjl] using this
      refine ⟨(List.range len).map g, fun a ha => ?_, by simp; omega, RelL.cons ?_ RelL.nil⟩
      · obtain ⟨i, hi', rfl⟩ := List.mem_map.1 ha
        exact (hg i (List.mem_range.1 hi')).1
      · rw [List.length_map, List.length_range]
        have hq : ∀ j, j < (((List.range len).map g).flatMap enc').length → ∃ u, W.cell? ⟨b, off + j, none⟩ = some u ∧ ∃ x, (((List.range len).map g).flatMap enc')[j]? = some x ∧ RelV (Old W) W x u := fun j hj => by
          rw [hflat] at hj
          have h1 : j / P.cellsOf e < len := (Nat.div_lt_iff_lt_mul hpos).2 hj
          have h2 := Nat.mod_lt j hpos
          have h3 : j / P.cellsOf e * P.cellsOf e + j % P.cellsOf e = j := by rw [Nat.mul_comm]; exact Nat.div_add_mod j _
          obtain ⟨u, hu, x, hx', hr⟩ := hcell (j / P.cellsOf e) (j % P.cellsOf e) h1 h2
          rw [h3] at hu
          refine ⟨u, hu, x, ?_, hr⟩
          have := hflatget len _ _ h1 h2
          rw [h3] at this
          rw [this, hx']
        refine .ro false len _ b off cap (fun j => (W.cell? ⟨b, off + j, none⟩).getD undef) hblt (fun j hj => ?_) (fun j hj => ?_) hl hm (fun h => by cases h)
        · obtain ⟨u, hu, _⟩ := hq j hj
          rw [hu]; rfl
        · obtain ⟨u, hu, x, hx', hr⟩ := hq j hj
          rw [hu]
          simp only [Option.getD_some]
          have : x = (((List.range len).map g).flatMap enc')[j] := by
            rw [List.getElem?_eq_getElem hj] at hx'; exact (Option.some.inj hx').symm
          rw [← this]; exact hr

theorem flatMap_one {α : Type} (f : α → AV) (l : List α) : l.flatMap (fun a => [f a]) = l.map f := by
  induction l with
  | nil => rfl
  | cons a l ih => simp [List.flatMap_cons, ih]

theorem rd_ints {base : Nat} {spare : Nat → Bool} {held : Bool} {t e : TypeId} {k : IntKind} (ht : P.underlying t = some (.slice e)) (he : P.underlying e = some (.int k)) (h1 : P.cellsOf e = 1) {n : Nat} {cs : List Value} {x : DataW H × List MemPlace} (h : DataW.trod enc P W base spare held n t cs = some x) :
    ∃ l : List Int, (∀ z ∈ l, (Lit.int k z).wf = true) ∧ l.length ≤ maxLen ∧ RelL (Old W) W [.ro false l.length (intsA k l)] cs := by
  obtain ⟨l, h2, h3, h4⟩ := rd_slice (enc' := fun z : Int => [.val (.int k z)]) (good := fun z => (Lit.int k z).wf = true) ht (fun _ => h1.symm) (by omega) (fun n cs x _ h => rd_int he h) h
  rw [flatMap_one] at h4
  exact ⟨l, h2, h3, h4⟩
theorem rd_bytes {base : Nat} {spare : Nat → Bool} {held : Bool} {t e : TypeId} (ht : P.underlying t = some (.slice e)) (he : P.underlying e = some (.int .u8)) (h1 : P.cellsOf e = 1) {n : Nat} {cs : List Value} {x : DataW H × List MemPlace} (h : DataW.trod enc P W base spare held n t cs = some x) :
    ∃ l : List UInt8, l.length ≤ maxLen ∧ RelL (Old W) W [roB l] cs := by
  obtain ⟨l, h2, h3, h4⟩ := rd_ints ht he h1 h
  have hb : ∃ m : List UInt8, l = m.map fun b => ((b.toNat : Nat) : Int) := by
    clear h h3 h4
    induction l with
    | nil => exact ⟨[], rfl⟩
    | cons z l ih =>
      obtain ⟨m, rfl⟩ := ih fun z hz => h2 z (List.mem_cons_of_mem _ hz)
      have hz := h2 z (List.mem_cons_self ..)
      have hz' : 0 ≤ z ∧ z ≤ 255 := by simpa [Lit.wf, IntKind.min, IntKind.max, IntKind.signed, IntKind.bits] using hz
      refine ⟨UInt8.ofNat z.toNat :: m, ?_⟩
      simp only [List.map_cons, List.cons.injEq, and_true]
      rw [UInt8.toNat_ofNat_of_lt' (by simp [UInt8.size]; omega)]
      omega
  obtain ⟨m, rfl⟩ := hb
  refine ⟨m, by simpa using h3, ?_⟩
  simpa [roB, bytesA, intsA, Function.comp_def] using h4

theorem relV_of_one {R : Nat → Prop} {a : AV} {v : Value} (hc : v.cells.toList = [v]) (h : RelL R W [a] v.cells.toList) : RelV R W a v := by
  rw [hc] at h
  obtain ⟨u, r, he, h1, _⟩ := h.uncons
  cases he
  exact h1
end
end Go.Proofs.YtoonnnifelnaiaaGreatDoor.A

namespace Go.Proofs.YtoonnnifelnaiaaGreatDoor.A
open Go.ChangeShapes Go.WideShapes Go.ChangeAt Go.RowKit L
set_option linter.unusedVariables false
set_option maxRecDepth 20000
set_option linter.unusedSimpArgs false
section
variable {P : Program}

/-- Arguments of this type read as one of these. -/
def Reads (P : Program) (t : TypeId) (φ : AV → Prop) : Prop :=
  ∀ (H : Type) (enc : TypeId × Value → H) (W : World) (base b0 : Nat) (spare : Nat → Bool) (held : Bool) (v : Value) (d : DataW H) (p : List MemPlace),
    Value.okWide P W .any b0 t v → DataW.Trod enc P W base spare held t v d p → ∃ x, φ x ∧ RelV (Old W) W x v
/-- Cells of this type read as one of these. -/
structure RdC (P : Program) (t : TypeId) {α : Type} (f : α → List AV) (good : α → Prop) : Prop where
  len : ∀ a, (f a).length = P.cellsOf t
  rd : ∀ (H : Type) (enc : TypeId × Value → H) (W : World) (base : Nat) (spare : Nat → Bool) (held : Bool) (n : Nat) (cs : List Value) (x : DataW H × List MemPlace),
    DataW.trod enc P W base spare held n t cs = some x → ∃ a, good a ∧ RelL (Old W) W (f a) cs

theorem okw_int {W : World} {r : Reach} {b : Nat} {t : TypeId} {k : IntKind} (ht : P.underlying t = some (.int k)) {v : Value} (h : Value.okWide P W r b t v) : v.cells.toList = [v] := by
  cases v <;> simp [Value.okWide, ht, Cell.okWide, Cell.ok] at h <;> rfl
theorem okw_slice {W : World} {r : Reach} {b : Nat} {t e : TypeId} (ht : P.underlying t = some (.slice e)) {v : Value} (h : Value.okWide P W r b t v) : v.cells.toList = [v] := by
  cases v <;> simp [Value.okWide, ht, Cell.okWide, Cell.ok] at h <;> rfl
theorem okw_bool {W : World} {r : Reach} {b : Nat} {t : TypeId} (ht : P.underlying t = some .bool) {v : Value} (h : Value.okWide P W r b t v) : v.cells.toList = [v] := by
  cases v <;> simp [Value.okWide, ht, Cell.okWide, Cell.ok] at h <;> rfl
theorem RelL.glue {R : Nat → Prop} {W : World} {xs ys : List AV} {cs : List Value} {o k : Nat} (h1 : RelL R W xs ((cs.drop o).take k)) (h2 : RelL R W ys (cs.drop (o + k))) : RelL R W (xs ++ ys) (cs.drop o) := by
  have := h1.app h2
  rwa [show (cs.drop o).take k ++ cs.drop (o + k) = cs.drop o by rw [← List.drop_drop, List.take_append_drop]] at this
theorem RdC.int {t : TypeId} {k : IntKind} (ht : P.underlying t = some (.int k)) (h1 : P.cellsOf t = 1) : RdC P t (fun z : Int => [.val (.int k z)]) (fun z => (Lit.int k z).wf = true) :=
  ⟨fun _ => h1.symm, fun H enc W base spare held n cs x h => rd_int ht h⟩
theorem RdC.bool {t : TypeId} (ht : P.underlying t = some .bool) (h1 : P.cellsOf t = 1) : RdC P t (fun z : Bool => [.val (.bool z)]) (fun _ => True) :=
  ⟨fun _ => h1.symm, fun H enc W base spare held n cs x h => by
    obtain ⟨b, rfl, _⟩ := DataW.trod_bool ht h
    exact ⟨b, trivial, RelL.cons (.val _) RelL.nil⟩⟩
theorem RdC.string {t : TypeId} (ht : P.underlying t = some .string) (h1 : P.cellsOf t = 1) : RdC P t (fun s : ByteArray => [.val (.string s)]) (fun s => s.size ≤ maxLen) :=
  ⟨fun _ => h1.symm, fun H enc W base spare held n cs x h => by
    obtain ⟨b, rfl, _, hs⟩ := DataW.trod_string ht h
    exact ⟨b, hs, RelL.cons (.val _) RelL.nil⟩⟩
theorem RdC.slice {t e : TypeId} {α : Type} {f : α → List AV} {good : α → Prop} (ht : P.underlying t = some (.slice e)) (h1 : P.cellsOf t = 1) (hpos : 0 < P.cellsOf e) (h : RdC P e f good) :
    RdC P t (fun l : List α => [.ro false l.length (l.flatMap f)]) (fun l => (∀ a ∈ l, good a) ∧ l.length ≤ maxLen) :=
  ⟨fun _ => h1.symm, fun H enc W base spare held n cs x hx => by
    obtain ⟨l, h2, h3, h4⟩ := rd_slice ht h.len hpos (fun n cs x _ hx => h.rd H enc W base spare held n cs x hx) hx
    exact ⟨l, ⟨h2, h3⟩, h4⟩⟩
theorem RdC.bytes {t e : TypeId} (ht : P.underlying t = some (.slice e)) (he : P.underlying e = some (.int .u8)) (h1 : P.cellsOf t = 1) (h2 : P.cellsOf e = 1) : RdC P t (fun l : List UInt8 => [roB l]) (fun l => l.length ≤ maxLen) :=
  ⟨fun _ => h1.symm, fun H enc W base spare held n cs x hx => rd_bytes ht he h2 hx⟩
theorem RdC.ints {t e : TypeId} {k : IntKind} (ht : P.underlying t = some (.slice e)) (he : P.underlying e = some (.int k)) (h1 : P.cellsOf t = 1) (h2 : P.cellsOf e = 1) :
    RdC P t (fun l : List Int => [.ro false l.length (intsA k l)]) (fun l => (∀ z ∈ l, (Lit.int k z).wf = true) ∧ l.length ≤ maxLen) :=
  ⟨fun _ => h1.symm, fun H enc W base spare held n cs x hx => by
    obtain ⟨l, h3, h4, h5⟩ := rd_ints ht he h2 hx
    exact ⟨l, ⟨h3, h4⟩, h5⟩⟩
/-- Fields, one after the other, from cell o on. -/
structure FR (P : Program) (fs : List Field) (o m : Nat) {α : Type} (f : α → List AV) (good : α → Prop) : Prop where
  len : ∀ a, (f a).length = m
  rd : ∀ (H : Type) (enc : TypeId × Value → H) (W : World) (base : Nat) (spare : Nat → Bool) (held : Bool) (cs : List Value), cs.length = o + m →
    (∀ fd ∈ fs, ∃ (n : Nat) (y : DataW H × List MemPlace), DataW.trod enc P W base spare held n fd.type ((cs.drop fd.offset).take (P.cellsOf fd.type)) = some y) → ∃ a, good a ∧ RelL (Old W) W (f a) (cs.drop o)
theorem FR.nil {o : Nat} : FR P [] o 0 (fun _ : Unit => []) (fun _ => True) :=
  ⟨fun _ => rfl, fun H enc W base spare held cs hl _ => ⟨(), trivial, by rw [List.drop_of_length_le (by omega)]; exact RelL.nil⟩⟩
theorem FR.cons {fd : Field} {fs : List Field} {o k m : Nat} {α β : Type} {f : α → List AV} {good : α → Prop} {g : β → List AV} {good' : β → Prop} (h : RdC P fd.type f good) (ho : fd.offset = o) (hk : P.cellsOf fd.type = k) (hs : FR P fs (o + k) m g good') :
    FR P (fd :: fs) o (k + m) (fun p : α × β => f p.1 ++ g p.2) (fun p => good p.1 ∧ good' p.2) :=
  ⟨fun p => by rw [List.length_append, h.len, hs.len, hk], fun H enc W base spare held cs hl hall => by
    obtain ⟨n, y, h1⟩ := hall fd (List.mem_cons_self ..)
    rw [ho, hk] at h1
    obtain ⟨a, h2, h3⟩ := h.rd H enc W base spare held _ _ _ h1
    obtain ⟨b, h4, h5⟩ := hs.rd H enc W base spare held cs (by omega) (fun fd hfd => hall fd (List.mem_cons_of_mem _ hfd))
    exact ⟨(a, b), ⟨h2, h4⟩, RelL.glue h3 h5⟩⟩
theorem RdC.struct {t : TypeId} {fs : List Field} {m : Nat} {α : Type} {f : α → List AV} {good : α → Prop} (ht : P.underlying t = some (.struct fs.toArray)) (hm : P.cellsOf t = m) (h : FR P fs 0 m f good) : RdC P t f good :=
  ⟨fun a => by rw [h.len, hm], fun H enc W base spare held n cs x hx => by
    obtain ⟨xs, n', _, _, hl, hlen, hf⟩ := DataW.trod_struct ht hx
    obtain ⟨a, h1, h2⟩ := h.rd H enc W base spare held cs (by omega) (fun fd hfd => by
      obtain ⟨i, hi, rfl⟩ := List.getElem_of_mem hfd
      have h0 := hf i fs[i] (by simp [hi])
      have hxi : i < xs.length := by rw [hlen]; simpa using hi
      rw [List.getElem?_eq_getElem hxi] at h0
      exact ⟨n', _, h0⟩)
    exact ⟨a, h1, by simpa using h2⟩⟩
theorem RdC.map {t : TypeId} {α β : Type} {f : α → List AV} {good : α → Prop} {g : β → List AV} {good' : β → Prop} (h : RdC P t f good) (φ : α → β) (hφ : ∀ a, good a → good' (φ a) ∧ f a = g (φ a)) (hl : ∀ b, (g b).length = P.cellsOf t) : RdC P t g good' :=
  ⟨hl, fun H enc W base spare held n cs x hx => by
    obtain ⟨a, h1, h2⟩ := h.rd H enc W base spare held n cs x hx
    exact ⟨φ a, (hφ a h1).1, (hφ a h1).2 ▸ h2⟩⟩
theorem RdC.reads {t : TypeId} {α : Type} {f : α → List AV} {good : α → Prop} (h : RdC P t f good) (g : α → AV) (hg : ∀ a, f a = [g a]) (hw : ∀ (W : World) (b : Nat) (v : Value), Value.okWide P W .any b t v → v.cells.toList = [v]) : Reads P t (fun x => ∃ a, good a ∧ x = g a) :=
  fun H enc W base b0 spare held v d p hv ⟨n, hx⟩ => by
    obtain ⟨a, h1, h2⟩ := h.rd H enc W base spare held n _ _ hx
    rw [hg] at h2
    exact ⟨g a, ⟨a, h1, rfl⟩, relV_of_one (hw _ _ _ hv) h2⟩
theorem Reads.int {t : TypeId} {k : IntKind} (ht : P.underlying t = some (.int k)) (h1 : P.cellsOf t = 1) : Reads P t (fun x => ∃ z : Int, (Lit.int k z).wf = true ∧ x = .val (.int k z)) := (RdC.int ht h1).reads (fun z => .val (.int k z)) (fun _ => rfl) (fun _ _ _ h => okw_int ht h)
theorem Reads.bool {t : TypeId} (ht : P.underlying t = some .bool) (h1 : P.cellsOf t = 1) : Reads P t (fun x => ∃ z : Bool, True ∧ x = .val (.bool z)) := (RdC.bool ht h1).reads (fun z => .val (.bool z)) (fun _ => rfl) (fun _ _ _ h => okw_bool ht h)
theorem Reads.bytes {t e : TypeId} (ht : P.underlying t = some (.slice e)) (he : P.underlying e = some (.int .u8)) (h1 : P.cellsOf t = 1) (h2 : P.cellsOf e = 1) : Reads P t (fun x => ∃ l : List UInt8, l.length ≤ maxLen ∧ x = roB l) := (RdC.bytes ht he h1 h2).reads roB (fun _ => rfl) (fun _ _ _ h => okw_slice ht h)
theorem Reads.ints {t e : TypeId} {k : IntKind} (ht : P.underlying t = some (.slice e)) (he : P.underlying e = some (.int k)) (h1 : P.cellsOf t = 1) (h2 : P.cellsOf e = 1) :
    Reads P t (fun x => ∃ l : List Int, ((∀ z ∈ l, (Lit.int k z).wf = true) ∧ l.length ≤ maxLen) ∧ x = .ro false l.length (intsA k l)) := (RdC.ints ht he h1 h2).reads (fun l => .ro false l.length (intsA k l)) (fun _ => rfl) (fun _ _ _ h => okw_slice ht h)
theorem Reads.slice {t e : TypeId} {α : Type} {f : α → List AV} {good : α → Prop} (ht : P.underlying t = some (.slice e)) (h1 : P.cellsOf t = 1) (hpos : 0 < P.cellsOf e) (h : RdC P e f good) :
    Reads P t (fun x => ∃ l : List α, ((∀ a ∈ l, good a) ∧ l.length ≤ maxLen) ∧ x = .ro false l.length (l.flatMap f)) := (RdC.slice ht h1 hpos h).reads (fun l => .ro false l.length (l.flatMap f)) (fun _ => rfl) (fun _ _ _ h => okw_slice ht h)

/-- All arguments. -/
def ReadsL (P : Program) : List TypeId → List (AV → Prop) → Prop
  | [], [] => True
  | t :: ts, φ :: φs => Reads P t φ ∧ ReadsL P ts φs
  | _, _ => False
theorem ReadsL.nil : ReadsL P [] [] := trivial
theorem ReadsL.cons {t : TypeId} {ts : List TypeId} {φ : AV → Prop} {φs : List (AV → Prop)} (h : Reads P t φ) (hs : ReadsL P ts φs) : ReadsL P (t :: ts) (φ :: φs) := ⟨h, hs⟩
def AllOf : List (AV → Prop) → (List AV → Prop) → Prop
  | [], K => K []
  | φ :: φs, K => ∀ x, φ x → AllOf φs (fun xs => K (x :: xs))

theorem readAll {H : Type} {enc : TypeId × Value → H} {W : World} {base b0 : Nat} {spare : Nat → Bool} {held : Bool} : ∀ {ts : List TypeId} {φs : List (AV → Prop)} {K : List AV → Prop} {vs : List Value} {ds : List (DataW H)} {ps : List MemPlace},
    ReadsL P ts φs → AllOf φs K → (∀ (j : Nat) t v, ts[j]? = some t → vs[j]? = some v → Value.okWide P W .any b0 t v) → DataW.TrodAll enc P W base spare held ts vs ds ps → ∃ xs, K xs ∧ RelL (Old W) W xs vs
  | [], [], K, vs, ds, ps, _, hK, _, hT => by
    obtain ⟨rfl, _, _⟩ := trodAll_nil hT
    exact ⟨[], hK, RelL.nil⟩
  | [], _ :: _, _, _, _, _, h, _, _, _ => h.elim
  | _ :: _, [], _, _, _, _, h, _, _, _ => h.elim
  | t :: ts, φ :: φs, K, vs, ds, ps, h, hK, hv, hT => by
    obtain ⟨v0, vs0, d0, ds0, p0, q0, rfl, rfl, rfl, h0, r0⟩ := trodAll_cons hT
    obtain ⟨x, h1, h2⟩ := h.1 H enc W base b0 spare held v0 d0 p0 (hv 0 t v0 rfl rfl) h0
    obtain ⟨xs, h3, h4⟩ := readAll h.2 (hK x h1) (fun j t v a b => hv (j + 1) t v a b) r0
    exact ⟨x :: xs, h3, RelL.cons h2 h4⟩
end

end Go.Proofs.YtoonnnifelnaiaaGreatDoor.A

namespace Go.Proofs.YtoonnnifelnaiaaGreatDoor.A
open Go.RowKit L
section
variable {Γ : Cx} {P : Program} {E : Env} {H : List HE} {N : Nat} {o : Oper}
/-- A guarded call that is made, to which one own block is given. -/
theorem AO.callMGw {Q : Exit → Act → World → Prop} {ops : Array Oper} {rest : List Oper} {f : FuncId} {d : Nat} {xs : List Operand} {ats : Array TypeId} {args : List AV} (i : Nat) {e : HE} {Post : AV → List HE → Prop} {fn : Func} (ho : o.op = .call { callee := .value (.func f), args := xs.toArray, argTypes := ats }) (hw : wantedIs ops E o = some true) (hfn : P.funcs[f]? = some fn) (hn : (fn.name == "runtime.NumGoroutine") = false) (hb : fn.body.isNone = false)
    (hx : evs E xs = some args) (hd : o.dst = some d) (hN : Nat.ble (d + 1) Γ.N = true) (hi : H[i]? = some e) (h : Sp P f args [e] Post) (next : ∀ r H', Post r H' → AO Γ P ops Q rest ((d, r) :: E) (H' ++ H.eraseIdx i)) : AO Γ P ops Q (o :: rest) E H := fun R a W hs ha => by
  have h1 := AO.callMG (o := { o with guard := none }) i ho rfl hfn hn hb hx hd hN hi h next R a W hs ha
  unfold wpList at h1 ⊢
  rw [if_pos (wanted_is ha hw)]
  rw [if_pos (by unfold Region.wanted; rfl)] at h1
  exact h1
end
end Go.Proofs.YtoonnnifelnaiaaGreatDoor.A

namespace Go.Proofs.YtoonnnifelnaiaaGreatDoor.By
open Go.RowKit L A Dk
set_option linter.unusedVariables false
set_option maxRecDepth 20000
set_option linter.unusedSimpArgs false
attribute [local irreducible] AW AQ AO
def bareM (t c i : Int) : Msg := ⟨t, c, i, [], [], []⟩
def ReqOk (m : Msg) : Prop := ∃ t c i : Int, 0 ≤ t ∧ t < 2 ∧ 0 ≤ c ∧ c ≤ 2 ∧ 0 ≤ i ∧ i ≤ 65535 ∧ m = bareM t c i
def IsReq (r : AV) : Prop := ∃ m, ReqOk m ∧ r = aggM m
def c3 : List Int := [1, 2, 0]
def c6 : List Int := [0, 1, 9, 10, 65534, 65535]
def IsBare (r : AV) : Prop := ∃ t c i : Int, r = aggM (bareM t c i)
end Go.Proofs.YtoonnnifelnaiaaGreatDoor.By

namespace Go.Proofs.YtoonnnifelnaiaaGreatDoor.By
open Go.RowKit L A
set_option linter.unusedVariables false
set_option maxRecDepth 20000
set_option linter.unusedSimpArgs false
/-- What was given out and still lives is known to the endpoint. -/
def Knows (e : Ep) (now : Int) (g : List Us) : Prop := ∀ u ∈ g, now < u.till → u ∈ e.used
theorem Knows.later {e : Ep} {now now' : Int} {g : List Us} (h : Knows e now g) (hle : now ≤ now') : Knows e now' g := fun u hu hl => h u hu (by omega)
theorem Knows.next {e : Ep} {now : Int} {g : List Us} (h : Knows e now g) (n : Int) : Knows { e with next := n } now g := h
end Go.Proofs.YtoonnnifelnaiaaGreatDoor.By

namespace Go.Proofs.YtoonnnifelnaiaaGreatDoor.By
open Go.RowKit L A
set_option linter.unusedVariables false
set_option maxRecDepth 20000
set_option linter.unusedSimpArgs false
/-- What is sent: the id tells the payload. -/
abbrev payM (t i : Int) : Msg := ⟨t, 2, i, [], [], [u8 (i + 1)]⟩
abbrev ansM (i : Int) : Msg := ⟨2, 68, i, [], [], [u8 (i + 1)]⟩
structure Pk where
  m : Msg
  at_ : Int
def Pk.none : Pk := ⟨Msg.none, 0⟩
abbrev cP (q : Pk) : List AV := [.val (.int .i64 q.m.ty), .val (.int .i64 q.m.code), .val (.int .i64 q.m.id), roB q.m.tok, roO q.m.opts, roB q.m.pay, .val (.int .i64 q.at_)]
def cellsP (q : Pk) : List AV := cP q
theorem cellsP_len (q : Pk) : (cellsP q).length = 7 := rfl
def pksA (l : List Pk) : List AV := l.flatMap cellsP
abbrev pk (l : List Pk) (k : Nat) : Pk := l.getD k Pk.none
@[simp] theorem pksA_len (l : List Pk) : (pksA l).length = l.length * 7 := flat_len cellsP_len l
theorem pksA_snoc (a : List Pk) (w : Pk) : pksA (a ++ [w]) = pksA a ++ cP w := flat_snoc a w
theorem getP {l : List Pk} {k : Nat} (h : k < l.length) {j : Nat} (hj : j = k) : ((pksA l).drop (0 + j * 7)).take 7 = cP (pk l k) := by rw [Nat.zero_add]; exact flat_at cellsP_len Pk.none h hj
theorem u8_val {i : Int} (hi : 0 ≤ i ∧ i < 255) : ((u8 i).toNat : Int) = i := by
  simp only [u8, UInt8.toNat_ofNat']
  omega
/-! ### The sender -/
structure SideA (a : Ep) (n : Nat) : Prop where
  v : ValE a
  nx : a.next = (n : Int)
  us : ∀ u ∈ a.used, u.id < (n : Int)
  ou : ∀ w ∈ a.out, w.m.id < (n : Int) ∧ w.m = payM 0 w.m.id
/-! ### The net -/
def NetOk (net : List Pk) (n : Nat) (now : Int) : Prop := ∀ q ∈ net, ∃ t i : Int, (t = 0 ∨ t = 1) ∧ 0 ≤ i ∧ i < (n : Int) ∧ q.m = payM t i ∧ 0 ≤ q.at_ ∧ q.at_ ≤ now
theorem NetOk.later {net : List Pk} {n n' : Nat} {now now' : Int} (h : NetOk net n now) (hn : n ≤ n') (hnow : now ≤ now') : NetOk net n' now' := fun q hq => by
  obtain ⟨t, i, h1, h2, h3, h4, h5, h6⟩ := h q hq
  exact ⟨t, i, h1, h2, by omega, h4, h5, by omega⟩
/-! ### The receiver -/
def SideB (b : Ep) (D : List Int) : Prop := ∀ h ∈ b.inn, h.peer = 1 ∧ h.ans = true ∧ h.m = ansM h.id ∧ h.id ∈ D
/-- What was done and may still come is remembered. -/
def Kept (b : Ep) (D : List Int) (net : List Pk) (now : Int) : Prop := ∀ q ∈ net, q.m.id ∈ D → now < q.at_ + 128 → ∃ h ∈ b.inn, h.id = q.m.id ∧ q.at_ + 128 ≤ h.till
theorem Kept.later {b : Ep} {D : List Int} {net : List Pk} {now now' : Int} (h : Kept b D net now) (hn : now ≤ now') : Kept b D net now' := fun q hq hd hl => h q hq hd (by omega)
end Go.Proofs.YtoonnnifelnaiaaGreatDoor.By

namespace Go.Proofs.YtoonnnifelnaiaaGreatDoor.By
open Go.RowKit L A
set_option linter.unusedVariables false
set_option maxRecDepth 20000
set_option linter.unusedSimpArgs false
abbrev gotE (c : Ep) (h : Hd) : Ep := ⟨c.next, c.out, c.used, c.inn ++ [h]⟩
/-! ### The map of what was done -/
abbrev kU (i : Int) : Lit := .int .u8 ((u8 (i + 1)).toNat : Int)
structure DoneM (M : Ents) (D : List Int) : Prop where
  has : ∀ i : Int, 0 ≤ i → i < 200 → mBool (mGet M (kU i) (.bool false)) = decide (i ∈ D)
  len : M.length ≤ D.length
theorem DoneM.nil : DoneM [] [] := ⟨fun i _ _ => rfl, Nat.le_refl _⟩
theorem isKeyU (i : Int) : WideAt.IsKeyLit (kU i) := trivial
theorem DoneM.put {M : Ents} {D : List Int} (h : DoneM M D) {i : Int} (hi : 0 ≤ i ∧ i < 200) : DoneM (mPut M (kU i) (.bool true)) (i :: D) := by
  refine ⟨fun j hj1 hj2 => ?_, ?_⟩
  · by_cases he : j = i
    · subst he
      rw [mGet_same (isKeyU _)]; simp [mBool]
    · rw [mGet_other (isKeyU _) (isKeyU _) (by
        intro hh
        apply he
        have h1 : ((u8 (i + 1)).toNat : Int) = ((u8 (j + 1)).toNat : Int) := by injection hh
        rw [u8_val (by omega), u8_val (by omega)] at h1
        omega), h.has j hj1 hj2]
      refine decide_eq_decide.2 ?_
      rw [List.mem_cons]
      exact ⟨.inr, fun hh => hh.resolve_left he⟩
  · have := mPut_len M (kU i) (.bool true)
    have := h.len
    rw [List.length_cons]; omega
end Go.Proofs.YtoonnnifelnaiaaGreatDoor.By

namespace Go.Proofs.YtoonnnifelnaiaaGreatDoor.By
open Go.RowKit L A
set_option linter.unusedVariables false
set_option maxRecDepth 20000
set_option linter.unusedSimpArgs false
end Go.Proofs.YtoonnnifelnaiaaGreatDoor.By

namespace Go.Proofs.YtoonnnifelnaiaaGreatDoor.By
open Go.RowKit L A
set_option linter.unusedVariables false
set_option maxRecDepth 20000
set_option linter.unusedSimpArgs false
abbrev reqT (i : Int) : Msg := ⟨0, 2, i, [u8 i], [], []⟩
abbrev ackT (i k : Int) : Msg := ⟨2, 68, i, [u8 i], [], [u8 k]⟩
/-! ### The client -/
structure Cl (a : Ep) (n : Nat) : Prop where
  v : ValE a
  nx : a.next = (n : Int)
  us : ∀ u ∈ a.used, u.id < (n : Int)
  ou : ∀ w ∈ a.out, w.m.id < (n : Int)
/-! ### The network and the server -/
def NetT (net : List Pk) (n : Nat) (now : Int) : Prop := ∀ q ∈ net, ∃ i : Int, 0 ≤ i ∧ i < (n : Int) ∧ q.m = reqT i ∧ 0 ≤ q.at_ ∧ q.at_ ≤ now
theorem NetT.later {net : List Pk} {n n' : Nat} {now now' : Int} (h : NetT net n now) (hn : n ≤ n') (hnow : now ≤ now') : NetT net n' now' := fun q hq => by
  obtain ⟨i, h2, h3, h4, h5, h6⟩ := h q hq
  exact ⟨i, h2, by omega, h4, h5, by omega⟩
def SrvB (b : Ep) (num : Int → Int) (D : List Int) : Prop := ∀ h ∈ b.inn, h.peer = 0 ∧ h.ans = true ∧ h.m = ackT h.id (num h.id) ∧ h.id ∈ D
def BackT (back : List Pk) (num : Int → Int) (D : List Int) : Prop := ∀ q ∈ back, ∃ i ∈ D, q.m = ackT i (num i)
def upd (num : Int → Int) (i k : Int) : Int → Int := fun j => if j = i then k else num j
theorem upd_same (num : Int → Int) (i k : Int) : upd num i k i = k := if_pos rfl
theorem upd_other (num : Int → Int) {i j k : Int} (h : j ≠ i) : upd num i k j = num j := if_neg h
theorem upd_mem {num : Int → Int} {D : List Int} {i j k : Int} (hd : i ∉ D) (hj : j ∈ D) : upd num i k j = num j := upd_other num (fun e => hd (by rw [← e]; exact hj))
structure NumT (num : Int → Int) (D : List Int) (n : Nat) : Prop where
  nd : D.Nodup
  inn : ∀ i ∈ D, 0 ≤ i ∧ i < (n : Int)
  rg : ∀ i ∈ D, 1 ≤ num i ∧ num i ≤ (D.length : Int)
theorem NumT.nil : NumT (fun _ => 0) [] 0 := ⟨List.nodup_nil, by simp, by simp⟩
theorem NumT.more {num : Int → Int} {D : List Int} {n n' : Nat} (h : NumT num D n) (hn : n ≤ n') : NumT num D n' := ⟨h.nd, fun i hi => by have := h.inn i hi; omega, h.rg⟩
theorem NumT.put {num : Int → Int} {D : List Int} {n : Nat} (h : NumT num D n) {i : Int} (hi : 0 ≤ i ∧ i < (n : Int)) (hd : i ∉ D) : NumT (upd num i (D.length + 1)) (i :: D) n := by
  refine ⟨List.nodup_cons.2 ⟨hd, h.nd⟩, fun j hj => ?_, fun j hj => ?_⟩
  · rcases List.mem_cons.1 hj with rfl | hj
    · exact hi
    · exact h.inn j hj
  · rw [List.length_cons]
    rcases List.mem_cons.1 hj with rfl | hj
    · rw [upd_same]; omega
    · rw [upd_mem hd hj]
      have := h.rg j hj
      omega
theorem BackT.put {back : List Pk} {num : Int → Int} {D : List Int} (h : BackT back num D) {i k : Int} (hd : i ∉ D) : BackT back (upd num i k) (i :: D) := fun q hq => by
  obtain ⟨j, hj, hm⟩ := h q hq
  exact ⟨j, List.mem_cons_of_mem _ hj, by rw [upd_mem hd hj]; exact hm⟩
end Go.Proofs.YtoonnnifelnaiaaGreatDoor.By

namespace Go.Proofs.YtoonnnifelnaiaaGreatDoor.A
open Go.RowKit L
set_option linter.unusedVariables false
set_option maxRecDepth 20000
section
variable {P : Program} {k e : TypeId} {E : Env} {H : List HE} {N : Nat} {o : Oper}
end
end Go.Proofs.YtoonnnifelnaiaaGreatDoor.A
namespace Go.Proofs.YtoonnnifelnaiaaGreatDoor.By
open Go.RowKit L A
set_option linter.unusedVariables false
set_option linter.unusedSimpArgs false
instance : KeyT Tryz.prog 3 := ⟨Go.Maps.int_keyed Tryz.underlying3⟩
instance : ZeroT Tryz.prog 3 (.int .i64 0) := ⟨fun W => by kernel_rfl⟩
abbrev mapN (b : Nat) (M : Ents) : HE := mapHE Tryz.prog 3 3 b M
abbrev kN (i : Int) : Lit := .int .i64 i
def entN (num : Int → Int) (D : List Int) : Ents := D.map fun i => (kN i, kN (num i))
theorem pksB_snoc (l : List Pk) (m : Msg) (t : Int) : pksA l ++ [.val (.int .i64 m.ty), .val (.int .i64 m.code), .val (.int .i64 m.id), roB m.tok, roO m.opts, roB m.pay, .val (.int .i64 t)] = pksA (l ++ [(⟨m, t⟩ : Pk)]) := (pksA_snoc l ⟨m, t⟩).symm
end Go.Proofs.YtoonnnifelnaiaaGreatDoor.By

namespace Go.Proofs.YtoonnnifelnaiaaGreatDoor.By
open Go.RowKit L A
set_option linter.unusedVariables false
set_option maxRecDepth 20000
/-- Which number is newer (the same as the reference's of layer 19). -/
def newerT (a b c d : Int) : Bool := (decide (a < c) && decide (c - a < 8388608) || decide (c < a) && decide (8388608 < a - c)) || decide (128 < d - b)
/-- The number of state s, where the first one is start. -/
def seqOf (st : Int) (s : Nat) : Int := (st + (s : Int)) % 16777216
theorem seqOf_in (st : Int) (s : Nat) : 0 ≤ seqOf st s ∧ seqOf st s < 16777216 := by unfold seqOf; omega
theorem seqOf_succ (st : Int) (s : Nat) : (seqOf st s + 1) % 16777216 = seqOf st (s + 1) := by unfold seqOf; omega
theorem newer_up {st : Int} {k s : Nat} {t1 t2 : Int} (hs : s ≤ 300) (h : k < s) : newerT (seqOf st k) t1 (seqOf st s) t2 = true := by
  have h1 := seqOf_in st k
  have h2 := seqOf_in st s
  have h3 : (seqOf st k < seqOf st s ∧ seqOf st s - seqOf st k < 8388608) ∨ (seqOf st s < seqOf st k ∧ 8388608 < seqOf st k - seqOf st s) := by
    unfold seqOf at *; omega
  unfold newerT
  rcases h3 with ⟨h3, h4⟩ | ⟨h3, h4⟩ <;> simp [h3, h4]
theorem newer_down {st : Int} {k s : Nat} {t1 t2 : Int} (hk : k ≤ 300) (h : s ≤ k) (ht : t2 - t1 ≤ 128) : newerT (seqOf st k) t1 (seqOf st s) t2 = false := by
  have h1 := seqOf_in st k
  have h2 := seqOf_in st s
  have h3 : ¬(seqOf st k < seqOf st s ∧ seqOf st s - seqOf st k < 8388608) ∧ ¬(seqOf st s < seqOf st k ∧ 8388608 < seqOf st k - seqOf st s) := by
    unfold seqOf at *; omega
  obtain ⟨h3, h4⟩ := h3
  unfold newerT
  rw [Bool.or_eq_false_iff, Bool.or_eq_false_iff, Bool.and_eq_false_imp, Bool.and_eq_false_imp]
  simp only [decide_eq_true_eq, decide_eq_false_iff_not]
  exact ⟨⟨fun a b => h3 ⟨a, b⟩, fun a b => h4 ⟨a, b⟩⟩, by omega⟩
/-- A client keeps k since at; state s, which was sent at T s, arrives at now, fewer than 64 ticks later. -/
theorem keep_law {st : Int} {T : Nat → Int} {k s : Nat} {at_ now : Int} (hT : ∀ i j, i ≤ j → T i ≤ T j) (hk : k ≤ 300) (hs : s ≤ 300) (hat : T k ≤ at_) (hnow : now - T s < 64) :
    (newerT (seqOf st k) at_ (seqOf st s) now = true → k ≤ s) ∧ (newerT (seqOf st k) at_ (seqOf st s) now = false → s ≤ k) := by
  constructor
  · intro h
    by_cases hks : k ≤ s
    · exact hks
    · exfalso
      have h1 := hT s k (by omega)
      rw [newer_down hk (by omega) (by omega)] at h
      cases h
  · intro h
    by_cases hks : s ≤ k
    · exact hks
    · exfalso
      rw [newer_up hs (by omega)] at h
      cases h
/-! ### Numbers as bytes -/
def fromU (n : Int) : List UInt8 := (([16777216, 65536, 256, 1] : List Int).filter fun p => decide (0 < n / p)).map fun p => u8 (n / p)
def uintL (l : List UInt8) : Int := l.foldl (fun n c => n * 256 + (c.toNat : Int)) 0
theorem u8_nat (x : Int) : ((u8 x).toNat : Int) = x % 256 := by
  simp only [u8, UInt8.toNat_ofNat']
  omega
theorem uint_from {n : Int} (h0 : 0 ≤ n) (h1 : n < 16777216) : uintL (fromU n) = n ∧ (fromU n).length ≤ 3 := by
  have e1 : decide (0 < n / 16777216) = false := decide_eq_false (by omega)
  by_cases g1 : n < 256
  · have e2 : decide (0 < n / 65536) = false := decide_eq_false (by omega)
    have e3 : decide (0 < n / 256) = false := decide_eq_false (by omega)
    by_cases g0 : n = 0
    · subst g0; exact ⟨rfl, by decide⟩
    · have e4 : decide (0 < n / 1) = true := decide_eq_true (by omega)
      have e : fromU n = [u8 (n / 1)] := by unfold fromU; simp only [List.filter_cons, e1, e2, e3, e4, List.filter_nil, List.map_cons, List.map_nil, if_true, Bool.false_eq_true, if_false]
      rw [e]
      exact ⟨by simp only [uintL, List.foldl_cons, List.foldl_nil, u8_nat]; omega, by simp⟩
  · have e3 : decide (0 < n / 256) = true := decide_eq_true (by omega)
    have e4 : decide (0 < n / 1) = true := decide_eq_true (by omega)
    by_cases g2 : n < 65536
    · have e2 : decide (0 < n / 65536) = false := decide_eq_false (by omega)
      have e : fromU n = [u8 (n / 256), u8 (n / 1)] := by unfold fromU; simp only [List.filter_cons, e1, e2, e3, e4, List.filter_nil, List.map_cons, List.map_nil, if_true, Bool.false_eq_true, if_false]
      rw [e]
      exact ⟨by simp only [uintL, List.foldl_cons, List.foldl_nil, u8_nat]; omega, by simp⟩
    · have e2 : decide (0 < n / 65536) = true := decide_eq_true (by omega)
      have e : fromU n = [u8 (n / 65536), u8 (n / 256), u8 (n / 1)] := by unfold fromU; simp only [List.filter_cons, e1, e2, e3, e4, List.filter_nil, List.map_cons, List.map_nil, if_true, Bool.false_eq_true, if_false]
      rw [e]
      exact ⟨by simp only [uintL, List.foldl_cons, List.foldl_nil, u8_nat]; omega, by simp⟩
end Go.Proofs.YtoonnnifelnaiaaGreatDoor.By

namespace Go.Proofs.YtoonnnifelnaiaaGreatDoor.A
open Go.RowKit L
set_option linter.unusedVariables false
set_option maxRecDepth 20000
set_option linter.unusedSimpArgs false
/-- What is known of the block of a package variable. -/
def GK (g : Nat) (vs : List Value) (W : World) : Prop := ∃ cs T, W.heap[g]? = some (.cells cs T (0, 0)) ∧ cs.toList = vs
theorem GK.lt {g : Nat} {vs : List Value} {W : World} (h : GK g vs W) : g < W.heap.size := by
  obtain ⟨cs, T, h, _⟩ := h
  exact (Array.getElem?_eq_some_iff.1 h).1
theorem GK.mods {g : Nat} {vs : List Value} {S : Nat → Prop} {W W' : World} (h : GK g vs W) (hm : Mods S W W') (hS : ¬ S g) : GK g vs W' := by
  have hl := h.lt
  obtain ⟨cs, T, h1, h2⟩ := h
  exact ⟨cs, T, by rw [hm.block g hl hS]; exact h1, h2⟩
/-- What a function does where the variable is known. -/
def SpK (K : World → Prop) (P : Program) (f : FuncId) (args : List AV) (H0 : List HE) (Post : AV → List HE → Prop) : Prop :=
  ∀ (W : World) (R : Nat → Prop) (us : List Value), K W → (∀ b, R b → b < W.heap.size) → (∀ e ∈ H0, e.ok R W ∧ ∀ b, e.foot b → ¬ R b) → H0.Pairwise Disj → RelL R W args us →
    Calls P f us.toArray W fun e W' => ∃ u r H' R', e = .returned u ∧ Post r H' ∧ RelS ⟨W, footOf H0, R, 0⟩ R' H' W' ∧ RelV R' W' r u
theorem SpK.of {K : World → Prop} {P : Program} {f : FuncId} {args : List AV} {H0 : List HE} {Post : AV → List HE → Prop} (h : Sp P f args H0 Post) : SpK K P f args H0 Post := fun W R us _ h1 h2 h3 h4 => h W R us h1 h2 h3 h4
theorem SpK.coe {K : World → Prop} {P : Program} {f : FuncId} {args args' : List AV} {H0 : List HE} {Post : AV → List HE → Prop} (h : SpK K P f args' H0 Post) (hc : CoeL args args') : SpK K P f args H0 Post := fun W R us hK h1 h2 h3 h4 => h W R us hK h1 h2 h3 (hc R W us h4)
theorem notFoot_nil {g : Nat} : ¬ footOf [] g := fun ⟨e, he, _⟩ => by cases he
theorem notFoot_blk {g B T room : Nat} {xs : List AV} (h : B ≠ g) : ¬ footOf [.blk B T room xs] g := fun ⟨e, he, hb⟩ => by
  obtain rfl := List.mem_singleton.1 he
  exact h hb.symm
theorem SpK.enter {K : World → Prop} {P : Program} {f : FuncId} {args : List AV} {H0 : List HE} {Post : AV → List HE → Prop} {fn : Func} {c : Code} (hf : P.funcs[f]? = some fn) (hb : fn.body = some c) (n : Nat) (hn : fn.ntmps = n) (hl : Nat.ble args.length n = true)
    (h : ∀ w0 R0, K w0 → AW ⟨w0, footOf H0, R0, n⟩ P (FnQ ⟨w0, footOf H0, R0, n⟩ P fn Post) c (envOf 0 args) H0) : SpK K P f args H0 Post := fun W R us hK h1 h2 h3 h4 => by
  refine calls_of_wp hf hb (h W R hK R _ W ⟨Mods.refl _ _, h1, fun _ h => h, fun _ h => .inl h, fun e he => (h2 e he).1, fun e he b hb => ⟨.inr ⟨e, he, hb⟩, (h2 e he).2 b hb⟩, h3⟩ ⟨rfl, ?_, ?_⟩)
  · have := Nat.le_of_ble_eq_true hl
    have h5 := h4.1
    simp [hn]; omega
  · intro t v ht
    have key : ∀ (args : List AV) (k : Nat), look (envOf k args) t = some v → k ≤ t ∧ args[t - k]? = some v := by
      intro args
      induction args with
      | nil => intro k h; cases h
      | cons x r ih =>
        intro k h
        rw [envOf] at h
        unfold look at h
        cases hb : Nat.beq k t with
        | true =>
          rw [hb] at h
          have := Nat.eq_of_beq_eq_true hb
          subst this
          simp at h ⊢; exact h
        | false =>
          rw [hb] at h
          obtain ⟨h5, h6⟩ := ih (k + 1) h
          have : k ≠ t := fun e => by subst e; simp at hb
          refine ⟨by omega, ?_⟩
          rw [show t - k = (t - (k + 1)) + 1 by omega]
          simpa using h6
    obtain ⟨_, h5⟩ := key args 0 ht
    obtain ⟨u, h6, h7⟩ := h4.get (j := t) (by simpa using h5)
    have ht' : t < us.length := (List.getElem?_eq_some_iff.1 h6).1
    have hu : us[t] = u := (List.getElem?_eq_some_iff.1 h6).2
    have : Act.eval { tmps := us.toArray ++ Array.replicate (fn.ntmps - us.toArray.size) undef, defers := [] } (.tmp t) = u := by
      simp only [Act.eval, Array.getD]
      rw [dif_pos (by simp; omega)]
      simp [Array.getElem_append, ht', hu]
    rw [this]; exact h7
section
variable {Γ : Cx} {P : Program} {Q : Exit → Act → World → Prop} {E : Env} {H : List HE} {N : Nat} {o : Oper} {ops : Array Oper} {rest : List Oper}
/-- A call of a function whose contract needs the variable; it may write blocks of the caller's. -/
theorem AO.callMK {f : FuncId} {d : Nat} {g : Nat} {vs : List Value} {xs : List Operand} {ats : Array TypeId} {args : List AV} {H0 H1 : List HE} {Post : AV → List HE → Prop} {fn : Func} (hK : GK g vs Γ.w0) (hS : ¬ Γ.S g) (ho : o.op = .call { callee := .value (.func f), args := xs.toArray, argTypes := ats }) (hw : wantedIs ops E o = some true) (hfn : P.funcs[f]? = some fn) (hn : (fn.name == "runtime.NumGoroutine") = false) (hb : fn.body.isNone = false)
    (hx : evs E xs = some args) (hd : o.dst = some d) (hN : d < Γ.N) (hH : H.Perm (H0 ++ H1)) (h : SpK (GK g vs) P f args H0 Post) (next : ∀ r H', Post r H' → AO Γ P ops Q rest ((d, r) :: E) (H' ++ H1)) : AO Γ P ops Q (o :: rest) E H := fun R a W hs ha => by
  have hs0 := hs.perm hH.symm
  have hc := h W R (xs.map a.eval) (hK.mods hs.mods hS) hs.rlt (fun e he => ⟨hs0.ok e (List.mem_append_left _ he), fun b hb => (hs0.own e (List.mem_append_left _ he) b hb).2⟩) (List.pairwise_append.1 hs0.disj).1 (ha.evs hx)
  unfold wpList
  rw [if_pos (wanted_is ha hw)]
  refine .inl ?_
  unfold Oper.wp
  rw [run_callF ho hfn hn hb, List.map_toArray]
  refine Calls.mono hc ?_
  rintro e W' ⟨u, r, H', R', rfl, hP, hs', hv⟩
  show wpList P ops Q rest (a.put o.dst u) W'
  rw [hd]
  have hS0 : ∀ b, footOf H0 b → Γ.w0.heap.size ≤ b ∨ Γ.S b := fun b ⟨e, he, hb⟩ => (hs0.own e (List.mem_append_left _ he) b hb).1
  have hnR : ∀ b, footOf H0 b → ¬ R b := fun b ⟨e, he, hb⟩ => (hs0.own e (List.mem_append_left _ he) b hb).2
  have h1lt : ∀ e ∈ H1, ∀ b, e.foot b → b < W.heap.size := fun e he b hb => HE.ok_lt (hs0.ok e (List.mem_append_right _ he)) hb
  have h10 : ∀ e ∈ H1, ∀ b, e.foot b → ¬ footOf H0 b := fun e he b hb ⟨f, hf, hb'⟩ => (List.pairwise_append.1 hs0.disj).2.2 f hf e he b hb' hb
  have hR : ∀ b, R b → W'.heap[b]? = W.heap[b]? := fun b hb => hs'.mods.block b (hs.rlt b hb) fun hh => hnR b hh hb
  refine next r H' hP R' _ W' ⟨Mods.then hs.mods hs'.mods fun b hb hh => ?_, hs'.rlt, fun b hb => hs'.rsub b (hs.rsub b hb), fun b hb => ?_, ?_, ?_, ?_⟩ ((ha.mono hs'.rsub hR).put hN hv)
  · rcases hS0 b hh with h | h
    · omega
    · exact h
  · rcases hs'.rnew b hb with h | h | h
    · exact hs.rnew b h
    · exact .inr (.inl (Nat.le_trans hs.mods.size h))
    · exact .inr (hS0 b h)
  · intro e he
    rcases List.mem_append.1 he with he | he
    · exact hs'.ok e he
    · exact HE.ok_mono hs'.rsub hR hs'.mods.size (fun b hb => hs'.mods.block b (h1lt e he b hb) (h10 e he b hb)) (hs0.ok e (List.mem_append_right _ he))
  · intro e he b hb
    rcases List.mem_append.1 he with he | he
    · obtain ⟨h2, h3⟩ := hs'.own e he b hb
      refine ⟨?_, h3⟩
      rcases h2 with h2 | h2
      · exact .inl (Nat.le_trans hs.mods.size h2)
      · exact hS0 b h2
    · refine ⟨(hs0.own e (List.mem_append_right _ he) b hb).1, fun hr => ?_⟩
      rcases hs'.rnew b hr with h | h | h
      · exact (hs0.own e (List.mem_append_right _ he) b hb).2 h
      · have h5 := h1lt e he b hb
        exact absurd h (by simpa using h5)
      · exact h10 e he b hb h
  · rw [List.pairwise_append]
    refine ⟨hs'.disj, (List.pairwise_append.1 hs0.disj).2.1, fun e he f hf b hb hb' => ?_⟩
    rcases (hs'.own e he b hb).1 with h | h
    · have h5 := h1lt f hf b hb'
      exact absurd h (by simpa using h5)
    · exact h10 f hf b hb' h
theorem AO.callK {f : FuncId} {d : Nat} {g : Nat} {vs : List Value} {xs : List Operand} {ats : Array TypeId} {args : List AV} {v : AV} {fn : Func} (hK : GK g vs Γ.w0) (hS : ¬ Γ.S g) (ho : o.op = .call { callee := .value (.func f), args := xs.toArray, argTypes := ats }) (hw : wantedIs ops E o = some true) (hfn : P.funcs[f]? = some fn) (hn : (fn.name == "runtime.NumGoroutine") = false) (hb : fn.body.isNone = false)
    (hx : evs E xs = some args) (hd : o.dst = some d) (hN : Nat.ble (d + 1) Γ.N = true) (h : SpK (GK g vs) P f args [] (Is v)) (next : AO Γ P ops Q rest ((d, v) :: E) H) : AO Γ P ops Q (o :: rest) E H :=
  AO.callMK (H0 := []) (H1 := H) hK hS ho hw hfn hn hb hx hd (Nat.le_of_ble_eq_true hN) (List.Perm.refl _) h (by rintro _ _ ⟨rfl, rfl⟩; exact next)
theorem AO.callK1 {f : FuncId} {d : Nat} {g : Nat} {vs : List Value} {xs : List Operand} {ats : Array TypeId} {args : List AV} {i : Nat} {e e' : HE} {v : AV} {H' : List HE} {fn : Func} (hK : GK g vs Γ.w0) (hS : ¬ Γ.S g) (ho : o.op = .call { callee := .value (.func f), args := xs.toArray, argTypes := ats }) (hw : wantedIs ops E o = some true) (hfn : P.funcs[f]? = some fn) (hn : (fn.name == "runtime.NumGoroutine") = false) (hb : fn.body.isNone = false)
    (hx : evs E xs = some args) (hd : o.dst = some d) (hN : Nat.ble (d + 1) Γ.N = true) (hi : H[i]? = some e) (h : SpK (GK g vs) P f args [e] (IsM v e')) (hH : H.set i e' = H') (next : AO Γ P ops Q rest ((d, v) :: E) H') : AO Γ P ops Q (o :: rest) E H :=
  AO.callMK (H0 := [e]) (H1 := H.eraseIdx i) hK hS ho hw hfn hn hb hx hd (Nat.le_of_ble_eq_true hN) (perm_idx hi) h (by
    rintro _ _ ⟨rfl, rfl⟩
    exact AO.perm (by rw [← hH]; exact perm_set hi) next)
/-- .. that block is not the variable's. -/
theorem AO.callK1n {f : FuncId} {d : Nat} {g : Nat} {vs : List Value} {xs : List Operand} {ats : Array TypeId} {args : List AV} {i B T room : Nat} {ys : List AV} {e' : HE} {v : AV} {H' : List HE} {fn : Func} (hK : GK g vs Γ.w0) (hS : ¬ Γ.S g) (ho : o.op = .call { callee := .value (.func f), args := xs.toArray, argTypes := ats }) (hw : wantedIs ops E o = some true) (hfn : P.funcs[f]? = some fn) (hn : (fn.name == "runtime.NumGoroutine") = false) (hb : fn.body.isNone = false)
    (hx : evs E xs = some args) (hd : o.dst = some d) (hN : Nat.ble (d + 1) Γ.N = true) (hi : H[i]? = some (.blk B T room ys)) (h : B ≠ g → SpK (GK g vs) P f args [.blk B T room ys] (IsM v e')) (hH : H.set i e' = H') (next : AO Γ P ops Q rest ((d, v) :: E) H') : AO Γ P ops Q (o :: rest) E H := fun R a W hs ha => by
  have hB : B ≠ g := fun e => by
    rcases (hs.own _ (List.mem_of_getElem? hi) B rfl).1 with h1 | h1
    · have := hK.lt; omega
    · exact hS (by rw [← e]; exact h1)
  exact AO.callK1 hK hS ho hw hfn hn hb hx hd hN hi (h hB) hH next R a W hs ha
/-- A call that leaves one block of the caller's changed, where the guard is known. -/
theorem AO.callM1w {f : FuncId} {d : Nat} {xs : List Operand} {ats : Array TypeId} {args : List AV} {i : Nat} {e e' : HE} {v : AV} {H' : List HE} {fn : Func} (ho : o.op = .call { callee := .value (.func f), args := xs.toArray, argTypes := ats }) (hw : wantedIs ops E o = some true) (hfn : P.funcs[f]? = some fn) (hn : (fn.name == "runtime.NumGoroutine") = false) (hb : fn.body.isNone = false)
    (hx : evs E xs = some args) (hd : o.dst = some d) (hN : Nat.ble (d + 1) Γ.N = true) (hi : H[i]? = some e) (h : Sp P f args [e] (IsM v e')) (hH : H.set i e' = H') (next : AO Γ P ops Q rest ((d, v) :: E) H') : AO Γ P ops Q (o :: rest) E H := by
  refine AO.callMGw i ho hw hfn hn hb hx hd hN hi h ?_
  rintro _ _ ⟨rfl, rfl⟩
  exact AO.perm (by rw [← hH]; exact perm_set hi) next
/-- Reading an array that is a package variable. -/
theorem AO.loadG {T d g k : Nat} {vs : List Value} [hg : TyG P T true k] (hK : GK g vs Γ.w0) (hS : ¬ Γ.S g) (ho : o.op = .load T (.global g)) (hw : wantedIs ops E o = some true) (hd : o.dst = some d) (hN : Nat.ble (d + 1) Γ.N = true) (hk : vs.length = k)
    (next : AO Γ P ops Q rest ((d, .agg (vs.map .val)) :: E) H) : AO Γ P ops Q (o :: rest) E H := fun R a W hs ha => by
  obtain ⟨cs, T', h1, h2⟩ := hK.mods hs.mods hS
  have hl := run_loadVarK hg W g 0 vs hk (fun i u hi => by
    rw [cell_of_row W g (0 + i) cs T' (0, 0) h1]
    rw [← h2] at hi
    simpa using hi)
  have hrun : (execOp a.eval o).run P W = .ok (.value (.agg vs.toArray)) W := by
    simp only [execOp, ho, Act.eval, Instr.loadAt, Instr.sureAddr, Sem.run_bind, Sem.run_pure, Result.andThen_ok, hl]
  unfold wpList
  rw [if_pos (wanted_is ha hw)]
  refine .inl ?_
  unfold Oper.wp
  rw [hrun]
  show wpList P ops Q rest (a.put o.dst _) W
  rw [hd]
  refine next R _ W hs (ha.put (Nat.le_of_ble_eq_true hN) (RelL.toAgg (xs := vs.map .val) (us := vs) ⟨by simp, fun j hj => ?_⟩))
  have hj' : j < vs.length := by simpa using hj
  have : vs.getD j undef = vs[j] := by simp [List.getD, hj']
  rw [this, List.getElem_map]
  exact .val _
/-- x[i] of an array whose elements are of one cell -/
theorem O.index1 {T U : Nat} {x y : Operand} {n : Nat} {kk : IntKind} {z : Int} {xs : List AV} {v : AV} [hd : TyD P T (.array n U)] [hg : TyG P U false 1] (ho : o.op = .index T x y) (hx : ev E x = some (.agg xs)) (hy : ev E y = some (.val (.int kk z))) (hz : 0 ≤ z ∧ z < n) (hv : xs[z.toNat]? = some v) :
    OpW P N o E H (Is v) := .of_run fun R a W h1 h2 ha => by
  obtain ⟨d, inf, hd1, hi1, hk1, hg1⟩ := hg.ax
  obtain ⟨us, hu, hr⟩ := (ha.ev hx).agg_inv
  obtain ⟨u, h3, h4⟩ := hr.get hv
  refine ⟨u, ?_, h4⟩
  simp only [execOp, ho, hu, (ha.ev hy).val_inv, Instr.index, asIntOf, run_underlying hd.ax, Sem.run_bind, Sem.run_pure, Result.andThen_ok, sizeOf, typeInfo, run_program, hi1, hk1]
  rw [if_pos hz]
  cases d <;> first | (cases hg1; done) | (simp [part, isAgg, run_underlying hd1, sizeOf, typeInfo, hi1, hk1, h3])
/-- An error that is nil is nil. -/
theorem O.neqNilI {T T' : Nat} {x : Operand} (hu : ∃ ms, P.underlying T = some (.interface ms)) (ho : o.op = .binOp .neq T x (.const .nilIface) T') (hx : ev E x = some (.val .nilIface)) : OpW P N o E H (Is (.val (.bool false))) := by
  obtain ⟨ms, hu⟩ := hu
  have hr := fun W => run_underlying hu W
  refine O.bin ho hx rfl fun W => ?_
  have h1 : (eqGuard .neq T x (.const .nilIface) .nilIface .nilIface).run P W = .ok () W := by
    unfold eqGuard
    simp
  have h2 : ∀ d, (Op.equalIn (d + 1) T .nilIface .nilIface).run P W = .ok true W := fun d => by
    unfold Op.equalIn
    rw [Sem.run_bind, hr W]
    rfl
  have h3 : (Op.equal T .nilIface .nilIface).run P W = .ok true W := h2 9999
  rw [Sem.run_bind, h1]
  simp only [Result.andThen_ok]
  show (do pure (Value.bool (!(← Op.equal T .nilIface .nilIface))) : Sem Value).run P W = _
  rw [Sem.run_bind, h3]
  rfl
/-! ### Parts of strings -/
def SBnd (E : Env) (lo : Option Operand) (d l : Nat) : Prop := match lo with
  | none => l = d
  | some y => ∃ k z, ev E y = some (.val (.int k z)) ∧ z = (l : Int)
theorem sbnd_run {R : Nat → Prop} {W : World} {a : Act} {lo : Option Operand} {l : Nat} (d n : Nat) (code : BoundsCode) (ha : RelA N R W E a) (h : SBnd E lo d l) (hl : l ≤ n) :
    (match lo.map a.eval with | some v => Instr.sliceBound v n code | none => pure d : Sem Nat).run P W = .ok l W := by
  cases lo with
  | none => obtain rfl : l = d := h; rfl
  | some y =>
    obtain ⟨k, z, h1, rfl⟩ := h
    have hv := (ha.ev h1).val_inv
    simp [hv, Instr.sliceBound, asIntOf, hl]
theorem O.sliceS {T l h : Nat} {x : Operand} {lo hi : Option Operand} {s r : ByteArray} [hT : TyD P T .string] (ho : o.op = .slice T x lo hi none) (hx : ev E x = some (.val (.string s))) (h1 : SBnd E lo 0 l) (h2 : SBnd E hi s.size h) (hlh : l ≤ h) (hh : h ≤ s.size) (hr : s.extract l h = r) : OpW P N o E H (Is (.val (.string r))) := .of_run fun R a W _ _ ha => by
  refine ⟨.string r, ?_, .val _⟩
  have e1 := sbnd_run (P := P) s.size s.size .sliceAlen ha h2 hh
  have e2 := sbnd_run (P := P) 0 h .sliceB ha h1 hlh
  have hv := (ha.ev hx).val_inv
  have hs : (Instr.sliceAt T (.string s) (lo.map a.eval) (hi.map a.eval) none).run P W = .ok (.string r) W := by
    unfold Instr.sliceAt
    rw [Sem.run_bind, run_underlying hT.ax W]
    simp only [Result.andThen_ok]
    unfold Instr.slice
    rw [Sem.run_bind, run_underlying hT.ax W]
    simp only [Result.andThen_ok]
    unfold Instr.sliceBounds
    cases lo <;> cases hi <;> simp_all
  simp only [execOp, ho, hv, Option.map_none, Sem.run_bind, hs, Result.andThen_ok]
  rfl
end
end Go.Proofs.YtoonnnifelnaiaaGreatDoor.A

namespace Go.Proofs.YtoonnnifelnaiaaGreatDoor.By
open Go.RowKit L A Dk
set_option linter.unusedVariables false
set_option maxRecDepth 20000
set_option linter.unusedSimpArgs false
attribute [local irreducible] AW AQ AO
structure PreY (s w r : ByteArray) : Prop where
  a : w.size ≤ s.size
  b : s.extract 0 w.size = w
  c : s.extract w.size s.size = r
structure PreN (s w : ByteArray) : Prop where
  a : s.size < w.size ∨ (w.size ≤ s.size ∧ ((s.extract 0 w.size).toList == w.toList) = false)
instance (s w r : ByteArray) : Decidable (PreY s w r) := decidable_of_iff (w.size ≤ s.size ∧ s.extract 0 w.size = w ∧ s.extract w.size s.size = r) ⟨fun h => ⟨h.1, h.2.1, h.2.2⟩, fun h => ⟨h.a, h.b, h.c⟩⟩
instance (s w : ByteArray) : Decidable (PreN s w) := decidable_of_iff _ ⟨fun h => ⟨h⟩, fun h => h.a⟩
theorem hasPre_yes {s w r : ByteArray} (h : PreY s w r) : Sp Tryz.prog 168 [.val (.string s), .val (.string w)] [] (Is (.val (.bool true))) := by
  obtain ⟨h1, h2, h3⟩ := h
  have hq : ((s.extract 0 w.size).toList == w.toList) = true := by rw [h2]; exact beq_self_eq_true _
  refine Sp.enter Tryz.func168 rfl _ Tryz.ntmps168 rfl (fun w0 R0 => ?_)
  refine AW.seq ?_
  refine AW.region ?_
  refine AO.op (O.assign rfl rfl) rfl rfl rfl ?_
  refine AO.nil ?_
  refine AQ.thenN ?_
  refine AW.seq ?_
  refine AW.region ?_
  refine AO.op (O.move rfl rfl) rfl rfl rfl ?_
  refine AO.op (O.lenS rfl rfl) rfl rfl rfl ?_
  refine AO.op (O.move rfl rfl) rfl rfl rfl ?_
  refine AO.op (O.lenS rfl rfl) rfl rfl rfl ?_
  refine AO.op (O.geq rfl rfl rfl (by exact bTrue (by omega))) rfl rfl rfl ?_
  refine AO.op (O.move rfl rfl) rfl rfl rfl ?_
  refine AO.opG rfl rfl rfl (fun hp => O.move rfl rfl) ?_
  refine AO.opG rfl rfl rfl (fun hp => O.move rfl rfl) ?_
  refine AO.opG rfl rfl rfl (fun hp => OpW.force 12 rfl (by exact hp) (O.lenS rfl rfl)) ?_
  refine AO.opG rfl rfl rfl (fun hp => OpW.force 11 rfl (by exact hp) (OpW.force 13 rfl (by exact hp) (O.sliceS rfl rfl (by exact rfl) (by exact ⟨_, _, rfl, by rfl⟩) (by omega) (by omega) rfl))) ?_
  refine AO.opG rfl rfl rfl (fun hp => O.move rfl rfl) ?_
  refine AO.opG rfl rfl rfl (fun hp => OpW.force 14 rfl (by exact hp) (OpW.force 15 rfl (by exact hp) (O.eqlS rfl rfl rfl (by assumption)))) ?_
  refine AO.op (O.pickAnd rfl rfl rfl rfl (fun h => by exact h)) rfl rfl rfl ?_
  refine AO.op (O.assign rfl rfl) rfl rfl rfl ?_
  refine AO.nil ?_
  refine AQ.thenN ?_
  refine AW.ret ?_
  refine AQ.ret1 rfl rfl ⟨_, List.nil_sublist _, .nil⟩ (⟨rfl, rfl⟩)
theorem hasPre_no {s w : ByteArray} (h : PreN s w) : Sp Tryz.prog 168 [.val (.string s), .val (.string w)] [] (Is (.val (.bool false))) := by
  obtain ⟨h | ⟨h1, h2⟩⟩ := h
  · refine Sp.enter Tryz.func168 rfl _ Tryz.ntmps168 rfl (fun w0 R0 => ?_)
    refine AW.seq ?_
    refine AW.region ?_
    refine AO.op (O.assign rfl rfl) rfl rfl rfl ?_
    refine AO.nil ?_
    refine AQ.thenN ?_
    refine AW.seq ?_
    refine AW.region ?_
    refine AO.op (O.move rfl rfl) rfl rfl rfl ?_
    refine AO.op (O.lenS rfl rfl) rfl rfl rfl ?_
    refine AO.op (O.move rfl rfl) rfl rfl rfl ?_
    refine AO.op (O.lenS rfl rfl) rfl rfl rfl ?_
    refine AO.op (O.geq rfl rfl rfl (by exact bFalse (by omega))) rfl rfl rfl ?_
    refine AO.op (O.move rfl rfl) rfl rfl rfl ?_
    refine AO.opG rfl rfl rfl (fun hp => O.move rfl rfl) ?_
    refine AO.opG rfl rfl rfl (fun hp => O.move rfl rfl) ?_
    refine AO.opG rfl rfl rfl (fun hp => OpW.force 12 rfl (by exact hp) (O.lenS rfl rfl)) ?_
    refine AO.no rfl rfl rfl ?_
    refine AO.opG rfl rfl rfl (fun hp => O.move rfl rfl) ?_
    refine AO.no rfl rfl rfl ?_
    refine AO.op (O.pickF rfl rfl rfl) rfl rfl rfl ?_
    refine AO.op (O.assign rfl rfl) rfl rfl rfl ?_
    refine AO.nil ?_
    refine AQ.thenN ?_
    refine AW.ret ?_
    refine AQ.ret1 rfl rfl ⟨_, List.nil_sublist _, .nil⟩ (⟨rfl, rfl⟩)
  · refine Sp.enter Tryz.func168 rfl _ Tryz.ntmps168 rfl (fun w0 R0 => ?_)
    refine AW.seq ?_
    refine AW.region ?_
    refine AO.op (O.assign rfl rfl) rfl rfl rfl ?_
    refine AO.nil ?_
    refine AQ.thenN ?_
    refine AW.seq ?_
    refine AW.region ?_
    refine AO.op (O.move rfl rfl) rfl rfl rfl ?_
    refine AO.op (O.lenS rfl rfl) rfl rfl rfl ?_
    refine AO.op (O.move rfl rfl) rfl rfl rfl ?_
    refine AO.op (O.lenS rfl rfl) rfl rfl rfl ?_
    refine AO.op (O.geq rfl rfl rfl (by exact bTrue (by omega))) rfl rfl rfl ?_
    refine AO.op (O.move rfl rfl) rfl rfl rfl ?_
    refine AO.opG rfl rfl rfl (fun hp => O.move rfl rfl) ?_
    refine AO.opG rfl rfl rfl (fun hp => O.move rfl rfl) ?_
    refine AO.opG rfl rfl rfl (fun hp => OpW.force 12 rfl (by exact hp) (O.lenS rfl rfl)) ?_
    refine AO.opG rfl rfl rfl (fun hp => OpW.force 11 rfl (by exact hp) (OpW.force 13 rfl (by exact hp) (O.sliceS rfl rfl (by exact rfl) (by exact ⟨_, _, rfl, by rfl⟩) (by omega) (by omega) rfl))) ?_
    refine AO.opG rfl rfl rfl (fun hp => O.move rfl rfl) ?_
    refine AO.opG rfl rfl rfl (fun hp => OpW.force 14 rfl (by exact hp) (OpW.force 15 rfl (by exact hp) (O.eqlS rfl rfl rfl (by assumption)))) ?_
    refine AO.op (O.pickAnd rfl rfl rfl rfl (fun h => by exact h)) rfl rfl rfl ?_
    refine AO.op (O.assign rfl rfl) rfl rfl rfl ?_
    refine AO.nil ?_
    refine AQ.thenN ?_
    refine AW.ret ?_
    refine AQ.ret1 rfl rfl ⟨_, List.nil_sublist _, .nil⟩ (⟨rfl, rfl⟩)
theorem cutPre_yes {s w r : ByteArray} (h : PreY s w r) : Sp Tryz.prog 120 [.val (.string s), .val (.string w)] [] (Is (.tup [.val (.string r), .val (.bool true)])) := by
  have h1 := h.a
  have h2 := h.c
  have hi : Sp Tryz.prog 141 [.val (.string s), .val (.string w)] [] (Is (.tup [.val (.string r), .val (.bool true)])) := by
    refine Sp.enter Tryz.func141 rfl _ Tryz.ntmps141 rfl (fun w0 R0 => ?_)
    refine AW.seq ?_
    refine AW.region ?_
    refine AO.op (O.assign rfl rfl) rfl rfl rfl ?_
    refine AO.op (O.assign rfl rfl) rfl rfl rfl ?_
    refine AO.nil ?_
    refine AQ.thenN ?_
    refine AW.seq ?_
    refine AW.seq ?_
    refine AW.region ?_
    refine AO.op (O.move rfl rfl) rfl rfl rfl ?_
    refine AO.op (O.move rfl rfl) rfl rfl rfl ?_
    refine AO.op (O.call rfl Tryz.func168 rfl rfl rfl (hasPre_yes ‹_›)) rfl rfl rfl ?_
    refine AO.op (O.not rfl rfl (by rfl)) rfl rfl rfl ?_
    refine AO.nil ?_
    refine AQ.thenN ?_
    refine AW.condF rfl ?_
    refine AW.skip ?_
    refine AQ.thenN ?_
    refine AW.seq ?_
    refine AW.region ?_
    refine AO.op (O.move rfl rfl) rfl rfl rfl ?_
    refine AO.op (O.move rfl rfl) rfl rfl rfl ?_
    refine AO.op (O.lenS rfl rfl) rfl rfl rfl ?_
    refine AO.op (O.sliceS rfl rfl (by exact ⟨_, _, rfl, by rfl⟩) (by exact rfl) (by omega) (by omega) (by assumption)) rfl rfl rfl ?_
    refine AO.op (O.assign rfl rfl) rfl rfl rfl ?_
    refine AO.op (O.assign rfl rfl) rfl rfl rfl ?_
    refine AO.nil ?_
    refine AQ.thenN ?_
    refine AW.ret ?_
    refine AQ.ret2 rfl rfl rfl ⟨_, List.nil_sublist _, .nil⟩ (⟨rfl, rfl⟩)
  refine Sp.enter Tryz.func120 rfl _ Tryz.ntmps120 rfl (fun w0 R0 => ?_)
  refine AW.seq ?_
  refine AW.region ?_
  refine AO.op (O.assign rfl rfl) rfl rfl rfl ?_
  refine AO.op (O.assign rfl rfl) rfl rfl rfl ?_
  refine AO.nil ?_
  refine AQ.thenN ?_
  refine AW.seq ?_
  refine AW.region ?_
  refine AO.op (O.move rfl rfl) rfl rfl rfl ?_
  refine AO.op (O.move rfl rfl) rfl rfl rfl ?_
  refine AO.op (O.call rfl Tryz.func141 rfl rfl rfl (hi)) rfl rfl rfl ?_
  refine AO.op (O.extract rfl rfl rfl) rfl rfl rfl ?_
  refine AO.op (O.extract rfl rfl rfl) rfl rfl rfl ?_
  refine AO.op (O.assign rfl rfl) rfl rfl rfl ?_
  refine AO.op (O.assign rfl rfl) rfl rfl rfl ?_
  refine AO.nil ?_
  refine AQ.thenN ?_
  refine AW.ret ?_
  refine AQ.ret2 rfl rfl rfl ⟨_, List.nil_sublist _, .nil⟩ (⟨rfl, rfl⟩)
theorem cutPre_no {s w : ByteArray} (h : PreN s w) : Sp Tryz.prog 120 [.val (.string s), .val (.string w)] [] (Is (.tup [.val (.string s), .val (.bool false)])) := by
  have hi : Sp Tryz.prog 141 [.val (.string s), .val (.string w)] [] (Is (.tup [.val (.string s), .val (.bool false)])) := by
    refine Sp.enter Tryz.func141 rfl _ Tryz.ntmps141 rfl (fun w0 R0 => ?_)
    refine AW.seq ?_
    refine AW.region ?_
    refine AO.op (O.assign rfl rfl) rfl rfl rfl ?_
    refine AO.op (O.assign rfl rfl) rfl rfl rfl ?_
    refine AO.nil ?_
    refine AQ.thenN ?_
    refine AW.seq ?_
    refine AW.seq ?_
    refine AW.region ?_
    refine AO.op (O.move rfl rfl) rfl rfl rfl ?_
    refine AO.op (O.move rfl rfl) rfl rfl rfl ?_
    refine AO.op (O.call rfl Tryz.func168 rfl rfl rfl (hasPre_no ‹_›)) rfl rfl rfl ?_
    refine AO.op (O.not rfl rfl (by rfl)) rfl rfl rfl ?_
    refine AO.nil ?_
    refine AQ.thenN ?_
    refine AW.condT rfl ?_
    refine AW.seq ?_
    refine AW.region ?_
    refine AO.op (O.move rfl rfl) rfl rfl rfl ?_
    refine AO.op (O.assign rfl rfl) rfl rfl rfl ?_
    refine AO.op (O.assign rfl rfl) rfl rfl rfl ?_
    refine AO.nil ?_
    refine AQ.thenN ?_
    refine AW.ret ?_
    refine AQ.thenR ?_
    refine AQ.ret2 rfl rfl rfl ⟨_, List.nil_sublist _, .nil⟩ (⟨rfl, rfl⟩)
  refine Sp.enter Tryz.func120 rfl _ Tryz.ntmps120 rfl (fun w0 R0 => ?_)
  refine AW.seq ?_
  refine AW.region ?_
  refine AO.op (O.assign rfl rfl) rfl rfl rfl ?_
  refine AO.op (O.assign rfl rfl) rfl rfl rfl ?_
  refine AO.nil ?_
  refine AQ.thenN ?_
  refine AW.seq ?_
  refine AW.region ?_
  refine AO.op (O.move rfl rfl) rfl rfl rfl ?_
  refine AO.op (O.move rfl rfl) rfl rfl rfl ?_
  refine AO.op (O.call rfl Tryz.func141 rfl rfl rfl (hi)) rfl rfl rfl ?_
  refine AO.op (O.extract rfl rfl rfl) rfl rfl rfl ?_
  refine AO.op (O.extract rfl rfl rfl) rfl rfl rfl ?_
  refine AO.op (O.assign rfl rfl) rfl rfl rfl ?_
  refine AO.op (O.assign rfl rfl) rfl rfl rfl ?_
  refine AO.nil ?_
  refine AQ.thenN ?_
  refine AW.ret ?_
  refine AQ.ret2 rfl rfl rfl ⟨_, List.nil_sublist _, .nil⟩ (⟨rfl, rfl⟩)
abbrev parsB (B : Nat) (s : ByteArray) (n : Int) (bad : Bool) : HE := .blk B 151 3 [.val (.string s), .val (.int .i64 n), .val (.bool bad)]
theorem skip_yes {B : Nat} {s w : ByteArray} (r : ByteArray) {n : Int} {bad : Bool} (h : PreY s w r) : Sp Tryz.prog 99 [ptr B, .val (.string w)] [parsB B s n bad] (IsM (.val (.bool true)) (parsB B r n bad)) := by
  refine Sp.enter Tryz.func99 rfl _ Tryz.ntmps99 rfl (fun w0 R0 => ?_)
  refine AW.seq ?_
  refine AW.region ?_
  refine AO.op (O.assign rfl rfl) rfl rfl rfl ?_
  refine AO.nil ?_
  refine AQ.thenN ?_
  refine AW.seq ?_
  refine AW.region ?_
  refine AO.op (O.move rfl rfl) rfl rfl rfl ?_
  refine AO.op (O.nilCheck rfl rfl) rfl rfl rfl ?_
  refine AO.op (O.fieldAddr rfl rfl) rfl rfl rfl ?_
  refine AO.op (O.load rfl rfl (by repeat (exact List.Mem.head _)) (by rfl)) rfl rfl rfl ?_
  refine AO.op (O.move rfl rfl) rfl rfl rfl ?_
  refine AO.op (O.call rfl Tryz.func120 rfl rfl rfl (cutPre_yes ‹_›)) rfl rfl rfl ?_
  refine AO.op (O.move rfl rfl) rfl rfl rfl ?_
  refine AO.op (O.extract rfl rfl rfl) rfl rfl rfl ?_
  refine AO.op (O.extract rfl rfl rfl) rfl rfl rfl ?_
  refine AO.op (O.assign rfl rfl) rfl rfl rfl ?_
  refine AO.op (O.assign rfl rfl) rfl rfl rfl ?_
  refine AO.nil ?_
  refine AQ.thenN ?_
  refine AW.seq ?_
  refine AW.seq ?_
  refine AW.region ?_
  refine AO.op (O.move rfl rfl) rfl rfl rfl ?_
  refine AO.nil ?_
  refine AQ.thenN ?_
  refine AW.condT rfl ?_
  refine AW.region ?_
  refine AO.op (O.move rfl rfl) rfl rfl rfl ?_
  refine AO.op (O.move rfl rfl) rfl rfl rfl ?_
  refine AO.op (O.nilCheck rfl rfl) rfl rfl rfl ?_
  refine AO.op (O.fieldAddr rfl rfl) rfl rfl rfl ?_
  refine AO.store (i := 0) rfl rfl rfl rfl rfl rfl (by rfl) (by rfl) (by rfl) (by rfl) (by rfl) ?_
  refine AO.nil ?_
  refine AQ.thenN ?_
  refine AW.seq ?_
  refine AW.region ?_
  refine AO.op (O.move rfl rfl) rfl rfl rfl ?_
  refine AO.op (O.assign rfl rfl) rfl rfl rfl ?_
  refine AO.nil ?_
  refine AQ.thenN ?_
  refine AW.ret ?_
  refine AQ.ret1 rfl rfl ⟨_, by repeat (first | exact List.Sublist.slnil | refine List.Sublist.cons_cons _ ?_), List.Perm.refl _⟩ (⟨rfl, rfl⟩)
theorem skip_no {B : Nat} {s w : ByteArray} {n : Int} {bad : Bool} (h : PreN s w) : Sp Tryz.prog 99 [ptr B, .val (.string w)] [parsB B s n bad] (IsM (.val (.bool false)) (parsB B s n bad)) := by
  refine Sp.enter Tryz.func99 rfl _ Tryz.ntmps99 rfl (fun w0 R0 => ?_)
  refine AW.seq ?_
  refine AW.region ?_
  refine AO.op (O.assign rfl rfl) rfl rfl rfl ?_
  refine AO.nil ?_
  refine AQ.thenN ?_
  refine AW.seq ?_
  refine AW.region ?_
  refine AO.op (O.move rfl rfl) rfl rfl rfl ?_
  refine AO.op (O.nilCheck rfl rfl) rfl rfl rfl ?_
  refine AO.op (O.fieldAddr rfl rfl) rfl rfl rfl ?_
  refine AO.op (O.load rfl rfl (by repeat (exact List.Mem.head _)) (by rfl)) rfl rfl rfl ?_
  refine AO.op (O.move rfl rfl) rfl rfl rfl ?_
  refine AO.op (O.call rfl Tryz.func120 rfl rfl rfl (cutPre_no ‹_›)) rfl rfl rfl ?_
  refine AO.op (O.move rfl rfl) rfl rfl rfl ?_
  refine AO.op (O.extract rfl rfl rfl) rfl rfl rfl ?_
  refine AO.op (O.extract rfl rfl rfl) rfl rfl rfl ?_
  refine AO.op (O.assign rfl rfl) rfl rfl rfl ?_
  refine AO.op (O.assign rfl rfl) rfl rfl rfl ?_
  refine AO.nil ?_
  refine AQ.thenN ?_
  refine AW.seq ?_
  refine AW.seq ?_
  refine AW.region ?_
  refine AO.op (O.move rfl rfl) rfl rfl rfl ?_
  refine AO.nil ?_
  refine AQ.thenN ?_
  refine AW.condF rfl ?_
  refine AW.skip ?_
  refine AQ.thenN ?_
  refine AW.seq ?_
  refine AW.region ?_
  refine AO.op (O.move rfl rfl) rfl rfl rfl ?_
  refine AO.op (O.assign rfl rfl) rfl rfl rfl ?_
  refine AO.nil ?_
  refine AQ.thenN ?_
  refine AW.ret ?_
  refine AQ.ret1 rfl rfl ⟨_, by repeat (first | exact List.Sublist.slnil | refine List.Sublist.cons_cons _ ?_), List.Perm.refl _⟩ (⟨rfl, rfl⟩)
/-! ### Numbers of one digit -/
def dig (z : Int) : ByteArray := ⟨#[u8 (48 + z)]⟩
theorem small_fn (z : Int) (hz : 0 ≤ z ∧ z < 10) : Sp Tryz.prog 137 [.val (.int .i64 z)] [] (Is (.val (.string (dig z)))) := by
  have hc : z = 0 ∨ z = 1 ∨ z = 2 ∨ z = 3 ∨ z = 4 ∨ z = 5 ∨ z = 6 ∨ z = 7 ∨ z = 8 ∨ z = 9 := by omega
  have hb : ∀ w : ByteArray, w = ⟨#[48, 49, 50, 51, 52, 53, 54, 55, 56, 57, 97, 98, 99, 100, 101, 102, 103, 104, 105, 106, 107, 108, 109, 110, 111, 112, 113, 114, 115, 116, 117, 118, 119, 120, 121, 122]⟩ → (z + 1).toNat ≤ w.size := by
    rintro w rfl
    show _ ≤ 36
    omega
  have he : ∀ w : ByteArray, w = ⟨#[48, 49, 50, 51, 52, 53, 54, 55, 56, 57, 97, 98, 99, 100, 101, 102, 103, 104, 105, 106, 107, 108, 109, 110, 111, 112, 113, 114, 115, 116, 117, 118, 119, 120, 121, 122]⟩ → w.extract z.toNat (z + 1).toNat = dig z := by
    rintro w rfl
    rcases hc with rfl | rfl | rfl | rfl | rfl | rfl | rfl | rfl | rfl | rfl <;> decide +kernel
  refine Sp.enter Tryz.func137 rfl _ Tryz.ntmps137 rfl (fun w0 R0 => ?_)
  refine AW.seq ?_
  refine AW.region ?_
  refine AO.op (O.assign rfl rfl) rfl rfl rfl ?_
  refine AO.nil ?_
  refine AQ.thenN ?_
  refine AW.seq ?_
  refine AW.seq ?_
  refine AW.region ?_
  refine AO.op (O.move rfl rfl) rfl rfl rfl ?_
  refine AO.op (O.lss rfl rfl rfl (by exact bTrue (by omega))) rfl rfl rfl ?_
  refine AO.nil ?_
  refine AQ.thenN ?_
  refine AW.condT rfl ?_
  refine AW.seq ?_
  refine AW.region ?_
  refine AO.op (O.move rfl rfl) rfl rfl rfl ?_
  refine AO.op (O.move rfl rfl) rfl rfl rfl ?_
  refine AO.op (O.add rfl rfl rfl (by exact wI64 (by omega))) rfl rfl rfl ?_
  refine AO.op (O.sliceS rfl rfl (by exact ⟨_, _, rfl, by omega⟩) (by exact ⟨_, _, rfl, by omega⟩) (by omega) (hb _ rfl) (he _ rfl)) rfl rfl rfl ?_
  refine AO.op (O.assign rfl rfl) rfl rfl rfl ?_
  refine AO.nil ?_
  refine AQ.thenN ?_
  refine AW.ret ?_
  refine AQ.thenR ?_
  refine AQ.ret1 rfl rfl ⟨_, List.nil_sublist _, .nil⟩ (⟨rfl, rfl⟩)
end Go.Proofs.YtoonnnifelnaiaaGreatDoor.By

namespace Go.Proofs.YtoonnnifelnaiaaGreatDoor.By
open Go.RowKit L A Dk
set_option linter.unusedVariables false
set_option maxRecDepth 20000
set_option linter.unusedSimpArgs false
attribute [local irreducible] AW AQ AO
/-- A row of bytes as yield. -/
def RowB (T : Nat) (l : List UInt8) : AV → List HE → Prop := fun r Hn => ∃ V : Value, V.oneCell' = true ∧ r = .val V ∧ Hn = [.row V T 1 l.length (bytesA l)]
theorem bytesA_snoc (l : List UInt8) (b : UInt8) : bytesA (l ++ [b]) = bytesA l ++ [.val (.int .u8 (b.toNat : Int))] := by simp [bytesA]
theorem retRB {V : Value} {T n : Nat} {l : List UInt8} {xs : List AV} (hV : V.oneCell' = true) (hn : n = l.length) (hx : xs = bytesA l) : RowB T l (.val V) [.row V T 1 n xs] := by
  subst hn; subst hx; exact ⟨V, hV, rfl, rfl⟩
theorem app1_fn (V : Value) (l : List UInt8) (z : Int) (hl : l.length ≤ 1000) (hz : 0 ≤ z ∧ z < 10) : Sp Tryz.prog 119 [.val V, .val (.int .u64 z), .val (.int .i64 10)] [.row V 5 1 l.length (bytesA l)] (RowB 5 (l ++ [u8 (48 + z)])) := by
  have hds : (dig z).size = 1 := rfl
  have e1 : l.length + (dig z).size = (l ++ [u8 (48 + z)]).length := by rw [List.length_append]; rfl
  have e2 : bytesA l ++ List.map AV.val (byteCells (dig z)) = bytesA (l ++ [u8 (48 + z)]) := by rw [bytesA_snoc]; rfl
  refine Sp.enter Tryz.func119 rfl _ Tryz.ntmps119 rfl (fun w0 R0 => ?_)
  refine AW.seq ?_
  refine AW.region ?_
  refine AO.op (O.assign rfl rfl) rfl rfl rfl ?_
  refine AO.nil ?_
  refine AQ.thenN ?_
  refine AW.seq ?_
  refine AW.seq ?_
  refine AW.region ?_
  refine AO.op (O.move rfl rfl) rfl rfl rfl ?_
  refine AO.op (O.eql rfl rfl rfl (by exact beq_iff_eq.2 (by omega))) rfl rfl rfl ?_
  refine AO.nil ?_
  refine AQ.thenN ?_
  refine AW.condT rfl ?_
  refine AW.seq ?_
  refine AW.seq ?_
  refine AW.region ?_
  refine AO.op (O.move rfl rfl) rfl rfl rfl ?_
  refine AO.op (O.lss rfl rfl rfl (by exact bTrue (by omega))) rfl rfl rfl ?_
  refine AO.nil ?_
  refine AQ.thenN ?_
  refine AW.condT rfl ?_
  refine AW.seq ?_
  refine AW.region ?_
  refine AO.op (O.move rfl rfl) rfl rfl rfl ?_
  refine AO.op (O.move rfl rfl) rfl rfl rfl ?_
  refine AO.op (O.conv rfl rfl (by exact wI64 (by omega))) rfl rfl rfl ?_
  refine AO.op (O.call rfl Tryz.func137 rfl rfl rfl (small_fn z ⟨by omega, by omega⟩)) rfl rfl rfl ?_
  (refine AO.append' (i := 0) rfl rfl rfl rfl (by rfl) (by rfl) rfl rfl rfl (by exact SrcA.str TyD.ax (by rfl)) (by rfl) (by (unfold maxLen; omega)) (by omega) (by (dsimp only [List.set, List.cons_append, List.nil_append, List.take, List.drop]; done)) (fun _ => by (dsimp only [List.set]; done)) ?_)
  intro V1 hV1
  refine AO.op (O.assign rfl rfl) rfl rfl rfl ?_
  refine AO.nil ?_
  refine AQ.thenN ?_
  refine AW.ret ?_
  refine AQ.thenR ?_
  refine AQ.thenR ?_
  refine AQ.ret1 rfl rfl ⟨_, by repeat (first | exact List.Sublist.slnil | refine List.Sublist.cons_cons _ ?_), List.Perm.refl _⟩ (retRB hV1 e1 e2)
theorem app_fn (V : Value) (l : List UInt8) (z : Int) (hl : l.length ≤ 1000) (hz : 0 ≤ z ∧ z < 10) : Sp Tryz.prog 96 [.val V, .val (.int .u64 z), .val (.int .i64 10)] [.row V 5 1 l.length (bytesA l)] (RowB 5 (l ++ [u8 (48 + z)])) := by
  refine Sp.enter Tryz.func96 rfl _ Tryz.ntmps96 rfl (fun w0 R0 => ?_)
  refine AW.seq ?_
  refine AW.region ?_
  refine AO.op (O.assign rfl rfl) rfl rfl rfl ?_
  refine AO.nil ?_
  refine AQ.thenN ?_
  refine AW.seq ?_
  refine AW.region ?_
  refine AO.op (O.move rfl rfl) rfl rfl rfl ?_
  refine AO.op (O.move rfl rfl) rfl rfl rfl ?_
  refine AO.op (O.move rfl rfl) rfl rfl rfl ?_
  refine AO.callMG 0 rfl rfl Tryz.func119 rfl rfl rfl rfl rfl rfl (app1_fn V l z hl hz) ?_
  rintro _ _ ⟨V1, hV1, rfl, rfl⟩
  dsimp only [List.cons_append, List.nil_append, List.eraseIdx]
  refine AO.op (O.assign rfl rfl) rfl rfl rfl ?_
  refine AO.nil ?_
  refine AQ.thenN ?_
  refine AW.ret ?_
  refine AQ.ret1 rfl rfl ⟨_, by repeat (first | exact List.Sublist.slnil | refine List.Sublist.cons_cons _ ?_), List.Perm.refl _⟩ (⟨V1, hV1, rfl, rfl⟩)
/-! ### The text 1 -/
theorem parse1_fn : Sp Tryz.prog 124 [.val (.string ⟨#[49]⟩), .val (.int .i64 10), .val (.int .i64 64)] [] (Is (.tup [.val (.int .u64 1), .val .nilIface])) := by
  have q1 : ((⟨#[49]⟩ : ByteArray).toList == (⟨#[]⟩ : ByteArray).toList) = false := by decide +kernel
  have hlen : ([49] : List UInt8).length = 1 := rfl
  refine Sp.enter Tryz.func124 rfl _ Tryz.ntmps124 rfl (fun w0 R0 => ?_)
  refine AW.seq ?_
  refine AW.region ?_
  refine AO.op (O.assign rfl rfl) rfl rfl rfl ?_
  refine AO.op (O.assign rfl rfl) rfl rfl rfl ?_
  refine AO.nil ?_
  refine AQ.thenN ?_
  refine AW.seq ?_
  refine AW.seq ?_
  refine AW.region ?_
  refine AO.op (O.move rfl rfl) rfl rfl rfl ?_
  refine AO.op (O.eqlS rfl rfl rfl (by assumption)) rfl rfl rfl ?_
  refine AO.nil ?_
  refine AQ.thenN ?_
  refine AW.condF rfl ?_
  refine AW.skip ?_
  refine AQ.thenN ?_
  refine AW.seq ?_
  refine AW.region ?_
  refine AO.op (O.move rfl rfl) rfl rfl rfl ?_
  refine AO.op (O.eql rfl rfl rfl (by exact beq_eq_false_iff_ne.2 (by omega))) rfl rfl rfl ?_
  refine AO.op (O.assign rfl rfl) rfl rfl rfl ?_
  refine AO.nil ?_
  refine AQ.thenN ?_
  refine AW.seq ?_
  refine AW.region ?_
  refine AO.op (O.move rfl rfl) rfl rfl rfl ?_
  refine AO.op (O.assign rfl rfl) rfl rfl rfl ?_
  refine AO.nil ?_
  refine AQ.thenN ?_
  refine AW.seq ?_
  refine AW.block ?_
  refine AW.seq ?_
  refine AW.region ?_
  refine AO.op (O.move rfl rfl) rfl rfl rfl ?_
  refine AO.op (O.leq rfl rfl rfl (by exact bTrue (by omega))) rfl rfl rfl ?_
  refine AO.op (O.move rfl rfl) rfl rfl rfl ?_
  refine AO.opG rfl rfl rfl (fun hp => O.move rfl rfl) ?_
  refine AO.opG rfl rfl rfl (fun hp => OpW.force 29 rfl (by exact hp) (O.leq rfl rfl rfl (by exact bTrue (by omega)))) ?_
  refine AO.op (O.pickAnd rfl rfl rfl rfl (fun h => by exact h)) rfl rfl rfl ?_
  refine AO.op (O.assign rfl rfl) rfl rfl rfl ?_
  refine AO.nil ?_
  refine AQ.thenN ?_
  refine AW.condT rfl ?_
  refine AW.skip ?_
  refine AQ.blockN ?_
  refine AQ.thenN ?_
  refine AW.seq ?_
  refine AW.seq ?_
  refine AW.region ?_
  refine AO.op (O.move rfl rfl) rfl rfl rfl ?_
  refine AO.op (O.eql rfl rfl rfl (by exact beq_eq_false_iff_ne.2 (by omega))) rfl rfl rfl ?_
  refine AO.nil ?_
  refine AQ.thenN ?_
  refine AW.condF rfl ?_
  refine AW.seq ?_
  refine AW.region ?_
  refine AO.op (O.move rfl rfl) rfl rfl rfl ?_
  refine AO.op (O.lss rfl rfl rfl (by exact bFalse (by omega))) rfl rfl rfl ?_
  refine AO.op (O.move rfl rfl) rfl rfl rfl ?_
  refine AO.opG rfl rfl rfl (fun hp => O.move rfl rfl) ?_
  refine AO.opG rfl rfl rfl (fun hp => OpW.force 81 rfl (by exact hp) (O.gtr rfl rfl rfl (by exact bFalse (by omega)))) ?_
  refine AO.op (O.pickOr rfl rfl rfl rfl (fun h => by exact congrArg (fun b => !b) h)) rfl rfl rfl ?_
  refine AO.nil ?_
  refine AQ.thenN ?_
  refine AW.condF rfl ?_
  refine AW.skip ?_
  refine AQ.thenN ?_
  refine AW.seq ?_
  refine AW.region ?_
  refine AO.op (O.assign rfl rfl) rfl rfl rfl ?_
  refine AO.nil ?_
  refine AQ.thenN ?_
  refine AW.seq ?_
  refine AW.seq ?_
  refine AW.region ?_
  refine AO.op (O.move rfl rfl) rfl rfl rfl ?_
  refine AO.nil ?_
  refine AQ.thenN ?_
  refine AW.block ?_
  refine AW.seq ?_
  refine AW.region ?_
  refine AO.op (O.eql rfl rfl rfl (by exact beq_iff_eq.2 (by omega))) rfl rfl rfl ?_
  refine AO.op (O.assign rfl rfl) rfl rfl rfl ?_
  refine AO.nil ?_
  refine AQ.thenN ?_
  refine AW.condT rfl ?_
  refine AW.region ?_
  refine AO.op (O.assign rfl rfl) rfl rfl rfl ?_
  refine AO.nil ?_
  refine AQ.blockN ?_
  refine AQ.thenN ?_
  refine AW.seq ?_
  refine AW.region ?_
  refine AO.op (O.move rfl rfl) rfl rfl rfl ?_
  refine AO.op (O.conv rfl rfl (by exact wU64 (by omega))) rfl rfl rfl ?_
  refine AO.op (O.shl rfl rfl rfl (by omega) rfl) rfl rfl rfl ?_
  refine AO.op (O.sub rfl rfl rfl (by rfl)) rfl rfl rfl ?_
  refine AO.op (O.assign rfl rfl) rfl rfl rfl ?_
  refine AO.nil ?_
  refine AQ.thenN ?_
  refine AW.seq ?_
  refine AW.region ?_
  refine AO.op (O.assign rfl rfl) rfl rfl rfl ?_
  refine AO.nil ?_
  refine AQ.thenN ?_
  refine AW.seq ?_
  refine AW.region ?_
  refine AO.op (O.assign rfl rfl) rfl rfl rfl ?_
  refine AO.nil ?_
  refine AQ.thenN ?_
  refine AW.seq ?_
  refine AW.seq ?_
  refine AW.region ?_
  refine AO.op (O.move rfl rfl) rfl rfl rfl ?_
  refine AO.op (O.toBytes rfl rfl rfl (by (unfold maxLen; simp; done))) rfl rfl rfl ?_
  refine AO.op (O.lenR rfl rfl) rfl rfl rfl ?_
  refine AO.op (O.move rfl rfl) rfl rfl rfl ?_
  refine AO.nil ?_
  refine AQ.thenN ?_
  refine AW.block ?_
  refine AW.loopK [(1, _), (8, _), (9, _), (10, _), (11, _), (99, _), (100, _)] (fun nn E H => ∃ (k : Nat), (k ≤ 1) ∧ nn = 1 - k ∧ E = [(12, .val (.bool false)), (13, .val (.int .u64 (k : Int))), (101, .val (.int .i64 (k : Int)))] ∧ H = []) _ (⟨0, by omega, rfl, rfl, rfl⟩) (by repeat (first | exact envNil | refine envCons rfl ?_)) (by repeat (first | exact envNil | refine envCons rfl ?_)) (by repeat (exact subPnil)) ?_
  rintro nn E H ⟨k, hk, rfl, rfl, rfl⟩
  dsimp only [List.cons_append, List.nil_append]
  refine AW.seq ?_
  refine AW.region ?_
  refine AO.op (O.lss rfl rfl rfl (by rfl)) rfl rfl rfl ?_
  refine AO.nil ?_
  refine AQ.thenN ?_
  refine AW.seq ?_
  refine AW.split rfl (fun hlt => ?_) (fun hlt => ?_) <;> (try simp only [decide_eq_true_eq, decide_eq_false_iff_not, beq_iff_eq, beq_eq_false_iff_ne, bne_iff_ne, bne_eq_false_iff_eq, Bool.not_eq_true', Bool.not_eq_false', Bool.not_eq_true, Bool.not_eq_false, ne_eq, Int.not_lt, Int.not_le, Bool.and_eq_true, Bool.or_eq_true, Bool.or_eq_false_iff, Bool.and_eq_false_imp, strOf_toList, Decidable.not_not] at hlt)
  · skip
    obtain rfl : k = 0 := by omega
    refine AW.skip ?_
    refine AQ.thenN ?_
    refine AW.seq ?_
    refine AW.block ?_
    refine AW.seq ?_
    refine AW.region ?_
    refine AO.op (O.idxR rfl rfl rfl ⟨(by omega), (by omega)⟩) rfl rfl rfl ?_
    refine AO.op (O.loadR rfl rfl (by rfl)) rfl rfl rfl ?_
    refine AO.op (O.assign rfl rfl) rfl rfl rfl ?_
    refine AO.nil ?_
    refine AQ.thenN ?_
    refine AW.seq ?_
    refine AW.region ?_
    refine AO.op (O.assign rfl rfl) rfl rfl rfl ?_
    refine AO.nil ?_
    refine AQ.thenN ?_
    refine AW.seq ?_
    refine AW.block ?_
    refine AW.seq ?_
    refine AW.region ?_
    refine AO.op (O.move rfl rfl) rfl rfl rfl ?_
    refine AO.op (O.eql rfl rfl rfl (by rfl)) rfl rfl rfl ?_
    refine AO.op (O.move rfl rfl) rfl rfl rfl ?_
    refine AO.opG rfl rfl rfl (fun hp => O.move rfl rfl) ?_
    refine AO.op (O.pickAnd rfl rfl rfl rfl (fun h => by exact h)) rfl rfl rfl ?_
    refine AO.op (O.assign rfl rfl) rfl rfl rfl ?_
    refine AO.nil ?_
    refine AQ.thenN ?_
    refine AW.condF rfl ?_
    refine AW.seq ?_
    refine AW.region ?_
    refine AO.op (O.move rfl rfl) rfl rfl rfl ?_
    refine AO.op (O.leq rfl rfl rfl (by rfl)) rfl rfl rfl ?_
    refine AO.op (O.move rfl rfl) rfl rfl rfl ?_
    refine AO.opG rfl rfl rfl (fun hp => O.move rfl rfl) ?_
    refine AO.opG rfl rfl rfl (fun hp => OpW.force 116 rfl (by exact hp) (O.leq rfl rfl rfl (by assumption))) ?_
    refine AO.op (O.pickAnd rfl rfl rfl rfl (fun h => by exact h)) rfl rfl rfl ?_
    refine AO.op (O.assign rfl rfl) rfl rfl rfl ?_
    refine AO.nil ?_
    refine AQ.thenN ?_
    refine AW.condT rfl ?_
    refine AW.region ?_
    refine AO.op (O.move rfl rfl) rfl rfl rfl ?_
    refine AO.op (O.sub rfl rfl rfl (by rfl)) rfl rfl rfl ?_
    refine AO.op (O.assign rfl rfl) rfl rfl rfl ?_
    refine AO.nil ?_
    refine AQ.blockN ?_
    refine AQ.thenN ?_
    refine AW.seq ?_
    refine AW.seq ?_
    refine AW.region ?_
    refine AO.op (O.move rfl rfl) rfl rfl rfl ?_
    refine AO.op (O.move rfl rfl) rfl rfl rfl ?_
    refine AO.op (O.conv rfl rfl (by exact wU8 (by omega))) rfl rfl rfl ?_
    refine AO.op (O.geq rfl rfl rfl (by rfl)) rfl rfl rfl ?_
    refine AO.nil ?_
    refine AQ.thenN ?_
    refine AW.condF rfl ?_
    refine AW.skip ?_
    refine AQ.thenN ?_
    refine AW.seq ?_
    refine AW.seq ?_
    refine AW.region ?_
    refine AO.op (O.move rfl rfl) rfl rfl rfl ?_
    refine AO.op (O.move rfl rfl) rfl rfl rfl ?_
    refine AO.op (O.geq rfl rfl rfl (by exact bFalse (by omega))) rfl rfl rfl ?_
    refine AO.nil ?_
    refine AQ.thenN ?_
    refine AW.condF rfl ?_
    refine AW.skip ?_
    refine AQ.thenN ?_
    refine AW.seq ?_
    refine AW.region ?_
    refine AO.op (O.move rfl rfl) rfl rfl rfl ?_
    refine AO.op (O.move rfl rfl) rfl rfl rfl ?_
    refine AO.op (O.conv rfl rfl (by exact wU64 (by omega))) rfl rfl rfl ?_
    refine AO.op (O.mul rfl rfl rfl (by exact wU64 (by omega))) rfl rfl rfl ?_
    refine AO.op (O.assign rfl rfl) rfl rfl rfl ?_
    refine AO.nil ?_
    refine AQ.thenN ?_
    refine AW.seq ?_
    refine AW.region ?_
    refine AO.op (O.move rfl rfl) rfl rfl rfl ?_
    refine AO.op (O.move rfl rfl) rfl rfl rfl ?_
    refine AO.op (O.conv rfl rfl (by rfl)) rfl rfl rfl ?_
    refine AO.op (O.add rfl rfl rfl (by rfl)) rfl rfl rfl ?_
    refine AO.op (O.assign rfl rfl) rfl rfl rfl ?_
    refine AO.nil ?_
    refine AQ.thenN ?_
    refine AW.seq ?_
    refine AW.seq ?_
    refine AW.region ?_
    refine AO.op (O.move rfl rfl) rfl rfl rfl ?_
    refine AO.op (O.move rfl rfl) rfl rfl rfl ?_
    refine AO.op (O.lss rfl rfl rfl (by rfl)) rfl rfl rfl ?_
    refine AO.op (O.move rfl rfl) rfl rfl rfl ?_
    refine AO.opG rfl rfl rfl (fun hp => O.move rfl rfl) ?_
    refine AO.opG rfl rfl rfl (fun hp => O.move rfl rfl) ?_
    refine AO.opG rfl rfl rfl (fun hp => OpW.force 156 rfl (by exact hp) (OpW.force 157 rfl (by exact hp) (O.gtr rfl rfl rfl (by rfl)))) ?_
    refine AO.op (O.pickOr rfl rfl rfl rfl (fun h => by exact congrArg (fun b => !b) h)) rfl rfl rfl ?_
    refine AO.nil ?_
    refine AQ.thenN ?_
    refine AW.condF rfl ?_
    refine AW.skip ?_
    refine AQ.thenN ?_
    refine AW.region ?_
    refine AO.op (O.move rfl rfl) rfl rfl rfl ?_
    refine AO.op (O.assign rfl rfl) rfl rfl rfl ?_
    refine AO.nil ?_
    refine AQ.blockN ?_
    refine AQ.thenN ?_
    refine AW.region ?_
    refine AO.op (O.add rfl rfl rfl (by exact wI64 (by omega))) rfl rfl rfl ?_
    refine AO.op (O.move rfl rfl) rfl rfl rfl ?_
    refine AO.nil ?_
    refine AQ.loopKN _ _ _ (by omega) (⟨1, by omega, rfl, rfl, rfl⟩) (by repeat (first | exact envNil | refine envCons rfl ?_)) (by repeat (first | exact envNil | refine envCons rfl ?_)) (by repeat (exact subPnil))
  · skip
    obtain rfl : k = 1 := by omega
    refine AW.exit ?_
    refine AQ.thenX ?_
    refine AQ.loopX ?_
    refine AQ.blockX rfl ?_
    refine AQ.thenN ?_
    refine AW.seq ?_
    refine AW.seq ?_
    refine AW.region ?_
    refine AO.op (O.move rfl rfl) rfl rfl rfl ?_
    refine AO.op (O.move rfl rfl) rfl rfl rfl ?_
    refine AO.opG rfl rfl rfl (fun hp => O.move rfl rfl) ?_
    refine AO.no rfl rfl rfl ?_
    refine AO.no rfl rfl rfl ?_
    refine AO.op (O.pickF rfl rfl rfl) rfl rfl rfl ?_
    refine AO.nil ?_
    refine AQ.thenN ?_
    refine AW.condF rfl ?_
    refine AW.skip ?_
    refine AQ.thenN ?_
    refine AW.seq ?_
    refine AW.region ?_
    refine AO.op (O.move rfl rfl) rfl rfl rfl ?_
    refine AO.op (O.assign rfl rfl) rfl rfl rfl ?_
    refine AO.op (O.assign rfl rfl) rfl rfl rfl ?_
    refine AO.nil ?_
    refine AQ.thenN ?_
    refine AW.ret ?_
    refine AQ.ret2 rfl rfl rfl ⟨_, List.nil_sublist _, .nil⟩ (⟨rfl, rfl⟩)
end Go.Proofs.YtoonnnifelnaiaaGreatDoor.By

namespace Go.Proofs.YtoonnnifelnaiaaGreatDoor.By
open Go.RowKit L A
set_option linter.unusedVariables false
set_option maxRecDepth 20000
set_option linter.unusedSimpArgs false
attribute [local irreducible] AW AQ AO
def getO? (os : List Opt) (n : Int) : Option (List UInt8) := (os.find? fun o => o.num == n).map Opt.val
abbrev resG (r : Option (List UInt8)) : AV := .tup [roB (r.getD []), .val (.bool r.isSome)]
theorem retG {q : AV} {r : Option (List UInt8)} {a : List UInt8} {b : Bool} (h : r.getD [] = a) (h2 : r.isSome = b) (hq : q = .tup [roB a, .val (.bool b)]) : Is (resG r) q [] := by subst h; subst h2; exact ⟨hq, rfl⟩
theorem getO_take {os : List Opt} {n : Int} {k : Nat} (hk : k < os.length) (h : getO? (os.take k) n = none) : getO? (os.take (k + 1)) n = if (oat os k).num = n then some (oat os k).val else none := by
  rw [take_snoc Opt.none hk]
  unfold getO? at *
  rw [Option.map_eq_none_iff] at h
  rw [List.find?_append, h, Option.none_or, List.find?_singleton]
  by_cases e : (os.getD k Opt.none).num = n
  · rw [if_pos (by simpa using e), if_pos e]; rfl
  · rw [if_neg (by simpa using e), if_neg e]; rfl
theorem getO_app {os ps : List Opt} {n : Int} {v : List UInt8} (h : getO? os n = some v) : getO? (os ++ ps) n = some v := by
  unfold getO? at *
  rw [Option.map_eq_some_iff] at h ⊢
  obtain ⟨o, ho, rfl⟩ := h
  exact ⟨o, by rw [List.find?_append, ho]; rfl, rfl⟩
set_option maxHeartbeats 4000000 in
theorem oget_fn (m : Msg) (n : Int) (h3 : m.opts.length ≤ 1000000) (hat : ∀ o ∈ m.opts, o.val.length ≤ 140737488355328) : Sp Tryz.prog 17 [aggM m, .val (.int .i64 n)] [] (Is (resG (getO? m.opts n))) := by
  refine Sp.enter Tryz.func17 rfl _ Tryz.ntmps17 rfl (fun w0 R0 => ?_)
  refine AW.seq ?_
  refine AW.region ?_
  refine AO.opB (O.box rfl rfl rfl rfl rfl) rfl rfl rfl ?_
  intro B1
  refine AO.op (O.assign rfl rfl) rfl rfl rfl ?_
  refine AO.op (O.assign rfl rfl) rfl rfl rfl ?_
  refine AO.nil ?_
  refine AQ.thenN ?_
  refine AW.seq ?_
  refine AW.seq ?_
  refine AW.region ?_
  refine AO.op (O.fieldAddr rfl rfl) rfl rfl rfl ?_
  refine AO.op (O.load rfl rfl (by repeat (exact List.Mem.head _)) (by rfl)) rfl rfl rfl ?_
  refine AO.op (O.lenR rfl rfl) rfl rfl rfl ?_
  refine AO.op (O.move rfl rfl) rfl rfl rfl ?_
  refine AO.nil ?_
  refine AQ.thenN ?_
  refine AW.block ?_
  refine AW.loopK [(1, _), (9, _), (10, _)] (fun nn E H => ∃ (k : Nat), (k ≤ m.opts.length) ∧ (getO? (m.opts.take k) n = none) ∧ nn = m.opts.length - k ∧ E = [(11, .val (.int .i64 (k : Int)))] ∧ H = [.blk B1 41 6 [.val (.int .i64 m.ty), .val (.int .i64 m.code), .val (.int .i64 m.id), roB m.tok, roO m.opts, roB m.pay]]) _ (⟨0, by omega, rfl, rfl, rfl, rfl⟩) (by repeat (first | exact envNil | refine envCons rfl ?_)) (by repeat (first | exact envNil | refine envCons rfl ?_)) (by repeat (first | exact subPnil | refine subPcons 0 rfl ?_)) ?_
  rintro nn E H ⟨k, h4, hno, rfl, rfl, rfl⟩
  dsimp only [List.cons_append, List.nil_append]
  refine AW.seq ?_
  refine AW.region ?_
  refine AO.op (O.lss rfl rfl rfl (by rfl)) rfl rfl rfl ?_
  refine AO.nil ?_
  refine AQ.thenN ?_
  refine AW.seq ?_
  refine AW.split rfl (fun h5 => ?_) (fun h5 => ?_) <;> (try simp only [decide_eq_true_eq, decide_eq_false_iff_not, beq_iff_eq, beq_eq_false_iff_ne, bne_iff_ne, bne_eq_false_iff_eq, Bool.not_eq_true', Bool.not_eq_false', Bool.not_eq_true, Bool.not_eq_false, ne_eq, Int.not_lt, Int.not_le, Bool.and_eq_true, Bool.or_eq_true, Bool.or_eq_false_iff, Bool.and_eq_false_imp, strOf_toList, Decidable.not_not] at h5)
  · skip
    have hk : k < m.opts.length := by omega
    have hv : (oat m.opts k).val.length ≤ 140737488355328 := hat _ (getD_mem Opt.none hk)
    have hsc := getO_take hk hno
    refine AW.skip ?_
    refine AQ.thenN ?_
    refine AW.seq ?_
    refine AW.block ?_
    refine AW.seq ?_
    refine AW.region ?_
    refine AO.op (O.idxR rfl rfl rfl ⟨(by omega), (by omega)⟩) rfl rfl rfl ?_
    refine AO.op (O.loadRK rfl rfl (by exact getO (by omega) (by omega)) (by rfl)) rfl rfl rfl ?_
    refine AO.opB (O.alloc rfl (by (dsimp only [zerosA, List.replicate, List.append, List.flatten, AV.cells, Value.cells, List.toList_toArray, List.map]; done)) (by rfl)) rfl rfl rfl ?_
    intro B2
    (refine AO.store (i := 0) rfl rfl rfl rfl rfl rfl (by rfl) (by rfl) (by rfl) (by (dsimp only [List.set, List.cons_append, List.nil_append, List.take, List.drop]; done)) (by (dsimp only [List.set, List.cons_append, List.nil_append, List.take, List.drop]; done)) ?_)
    refine AO.nil ?_
    refine AQ.thenN ?_
    refine AW.seq ?_
    refine AW.region ?_
    refine AO.op (O.fieldAddr rfl rfl) rfl rfl rfl ?_
    refine AO.op (O.load rfl rfl (by repeat (exact List.Mem.head _)) (by rfl)) rfl rfl rfl ?_
    refine AO.op (O.move rfl rfl) rfl rfl rfl ?_
    refine AO.op (O.eql rfl rfl rfl (by rfl)) rfl rfl rfl ?_
    refine AO.nil ?_
    refine AQ.thenN ?_
    refine AW.split rfl (fun h6 => ?_) (fun h6 => ?_) <;> (try simp only [decide_eq_true_eq, decide_eq_false_iff_not, beq_iff_eq, beq_eq_false_iff_ne, bne_iff_ne, bne_eq_false_iff_eq, Bool.not_eq_true', Bool.not_eq_false', Bool.not_eq_true, Bool.not_eq_false, ne_eq, Int.not_lt, Int.not_le, Bool.and_eq_true, Bool.or_eq_true, Bool.or_eq_false_iff, Bool.and_eq_false_imp, strOf_toList, Decidable.not_not] at h6)
    · skip
      rw [if_pos h6] at hsc
      have hr : getO? m.opts n = some (oat m.opts k).val := by
        have := getO_app (ps := m.opts.drop (k + 1)) hsc
        rwa [List.take_append_drop] at this
      refine AW.seq ?_
      refine AW.region ?_
      refine AO.op (O.fieldAddr rfl rfl) rfl rfl rfl ?_
      refine AO.op (O.load rfl rfl (by repeat (exact List.Mem.head _)) (by rfl)) rfl rfl rfl ?_
      refine AO.op (O.call rfl Tryz.func49 rfl rfl rfl (clone_fn _ (by assumption))) rfl rfl rfl ?_
      refine AO.op (O.assign rfl rfl) rfl rfl rfl ?_
      refine AO.op (O.assign rfl rfl) rfl rfl rfl ?_
      refine AO.nil ?_
      refine AQ.thenN ?_
      refine AW.ret ?_
      refine AQ.blockR ?_
      refine AQ.thenR ?_
      refine AQ.loopR ?_
      refine AQ.blockR ?_
      refine AQ.thenR ?_
      refine AQ.ret2 rfl rfl rfl ⟨_, List.nil_sublist _, .nil⟩ (retG (r := getO? m.opts n) (congrArg (fun r => Option.getD r []) hr) (congrArg Option.isSome hr) rfl)
    · skip
      rw [if_neg h6] at hsc
      refine AW.skip ?_
      refine AQ.blockN ?_
      refine AQ.thenN ?_
      refine AW.region ?_
      refine AO.op (O.add rfl rfl rfl (by exact wI64 (by omega))) rfl rfl rfl ?_
      refine AO.op (O.move rfl rfl) rfl rfl rfl ?_
      refine AO.nil ?_
      refine AQ.loopKN _ _ _ (by omega) (⟨k + 1, by omega, hsc, rfl, rfl, rfl⟩) (by repeat (first | exact envNil | refine envCons rfl ?_)) (by repeat (first | exact envNil | refine envCons rfl ?_)) (by repeat (first | exact subPnil | refine subPcons 1 rfl ?_))
  · skip
    obtain rfl : k = m.opts.length := by omega
    rw [List.take_length] at hno
    refine AW.exit ?_
    refine AQ.thenX ?_
    refine AQ.loopX ?_
    refine AQ.blockX rfl ?_
    refine AQ.thenN ?_
    refine AW.seq ?_
    refine AW.region ?_
    refine AO.op (O.assign rfl rfl) rfl rfl rfl ?_
    refine AO.op (O.assign rfl rfl) rfl rfl rfl ?_
    refine AO.nil ?_
    refine AQ.thenN ?_
    refine AW.ret ?_
    refine FnQ.coe (AQ.ret2 rfl rfl rfl ⟨_, List.nil_sublist _, .nil⟩ ⟨rfl, rfl⟩) (Coe.tup (by (repeat (first | exact CoeL.nil | refine CoeL.cons Coe.rfl ?_ | refine CoeL.cons Coe.nil ?_)); done)) (retG (r := getO? m.opts n) (congrArg (fun r => Option.getD r []) hno) (congrArg Option.isSome hno) rfl)
theorem uintL_snoc (l : List UInt8) (b : UInt8) : uintL (l ++ [b]) = uintL l * 256 + (b.toNat : Int) := by simp [uintL]
theorem uintL_bd : ∀ (n : Nat) (l : List UInt8), l.length = n → 0 ≤ uintL l ∧ uintL l < ((256 ^ n : Nat) : Int)
  | 0, l, h => by
    obtain rfl := List.eq_nil_of_length_eq_zero h
    exact ⟨by decide, by decide⟩
  | n + 1, l, h => by
    have hn : l ≠ [] := by rintro rfl; simp at h
    have hl := List.dropLast_concat_getLast hn
    have ih := uintL_bd n l.dropLast (by rw [List.length_dropLast, h]; rfl)
    rw [← hl, uintL_snoc, Nat.pow_succ]
    have := (l.getLast hn).toNat_lt
    omega
theorem uintL_in {l : List UInt8} (k : Nat) (h : l.length ≤ k) : 0 ≤ uintL l ∧ uintL l < ((256 ^ k : Nat) : Int) := by
  have h1 := uintL_bd l.length l rfl
  have h2 : 256 ^ l.length ≤ 256 ^ k := Nat.pow_le_pow_right (by omega) h
  omega
theorem ouint_fn (l : List UInt8) (hl : l.length ≤ 4) : Sp Tryz.prog 18 [roB l] [] (Is (.tup [.val (.int .i64 (uintL l)), .val (.int .i64 0)])) := by
  refine Sp.enter Tryz.func18 rfl _ Tryz.ntmps18 rfl (fun w0 R0 => ?_)
  refine AW.seq ?_
  refine AW.region ?_
  refine AO.op (O.assign rfl rfl) rfl rfl rfl ?_
  refine AO.op (O.assign rfl rfl) rfl rfl rfl ?_
  refine AO.nil ?_
  refine AQ.thenN ?_
  refine AW.seq ?_
  refine AW.region ?_
  refine AO.op (O.assign rfl rfl) rfl rfl rfl ?_
  refine AO.nil ?_
  refine AQ.thenN ?_
  refine AW.seq ?_
  refine AW.seq ?_
  refine AW.region ?_
  refine AO.op (O.move rfl rfl) rfl rfl rfl ?_
  refine AO.op (O.lenR rfl rfl) rfl rfl rfl ?_
  refine AO.op (O.move rfl rfl) rfl rfl rfl ?_
  refine AO.nil ?_
  refine AQ.thenN ?_
  refine AW.block ?_
  refine AW.loopK [(7, _), (8, _)] (fun nn E H => ∃ (k : Nat) (z : Int), (k ≤ l.length) ∧ (z = uintL (l.take k)) ∧ nn = l.length - k ∧ E = [(4, .val (.int .i64 z)), (9, .val (.int .i64 (k : Int)))] ∧ H = []) _ (⟨0, 0, by omega, rfl, rfl, rfl, rfl⟩) (by repeat (first | exact envNil | refine envCons rfl ?_)) (by repeat (first | exact envNil | refine envCons rfl ?_)) (by repeat (exact subPnil)) ?_
  rintro nn E H ⟨k, z, h4, hz, rfl, rfl, rfl⟩
  dsimp only [List.cons_append, List.nil_append]
  have hb : 0 ≤ uintL (l.take k) ∧ uintL (l.take k) < 4294967296 := uintL_in 4 (by rw [List.length_take]; omega)
  rw [← hz] at hb
  refine AW.seq ?_
  refine AW.region ?_
  refine AO.op (O.lss rfl rfl rfl (by rfl)) rfl rfl rfl ?_
  refine AO.nil ?_
  refine AQ.thenN ?_
  refine AW.seq ?_
  refine AW.split rfl (fun h5 => ?_) (fun h5 => ?_) <;> (try simp only [decide_eq_true_eq, decide_eq_false_iff_not, beq_iff_eq, beq_eq_false_iff_ne, bne_iff_ne, bne_eq_false_iff_eq, Bool.not_eq_true', Bool.not_eq_false', Bool.not_eq_true, Bool.not_eq_false, ne_eq, Int.not_lt, Int.not_le, Bool.and_eq_true, Bool.or_eq_true, Bool.or_eq_false_iff, Bool.and_eq_false_imp, strOf_toList, Decidable.not_not] at h5)
  · skip
    have hk : k < l.length := by omega
    have hu := u8_lt (bt l k)
    have hb3 : 0 ≤ uintL (l.take k) ∧ uintL (l.take k) < 16777216 := uintL_in 3 (by rw [List.length_take]; omega)
    rw [← hz] at hb3
    have hs := uintL_snoc (l.take k) (bt l k)
    rw [← take_bt hk, ← hz] at hs
    refine AW.skip ?_
    refine AQ.thenN ?_
    refine AW.seq ?_
    refine AW.block ?_
    refine AW.seq ?_
    refine AW.region ?_
    refine AO.op (O.idxR rfl rfl rfl ⟨(by omega), (by omega)⟩) rfl rfl rfl ?_
    refine AO.op (O.loadR rfl rfl (by exact bt_at (by assumption) (by omega))) rfl rfl rfl ?_
    refine AO.op (O.assign rfl rfl) rfl rfl rfl ?_
    refine AO.nil ?_
    refine AQ.thenN ?_
    refine AW.seq ?_
    refine AW.region ?_
    refine AO.op (O.move rfl rfl) rfl rfl rfl ?_
    refine AO.op (O.shlK 8 256 rfl rfl rfl rfl (by rfl) (by exact wI64 (by omega))) rfl rfl rfl ?_
    refine AO.op (O.move rfl rfl) rfl rfl rfl ?_
    refine AO.op (O.conv rfl rfl (by exact wI64 (by omega))) rfl rfl rfl ?_
    refine AO.op (O.or_ rfl rfl rfl (orI64 8 (m := 256) (by decide) (by omega) (by omega))) rfl rfl rfl ?_
    refine AO.op (O.assign rfl rfl) rfl rfl rfl ?_
    refine AO.nil ?_
    refine AQ.thenN ?_
    refine AW.seq ?_
    refine AW.region ?_
    refine AO.op (O.move rfl rfl) rfl rfl rfl ?_
    refine AO.op (O.gtr rfl rfl rfl (by exact bFalse (by omega))) rfl rfl rfl ?_
    refine AO.nil ?_
    refine AQ.thenN ?_
    refine AW.condF rfl ?_
    refine AW.skip ?_
    refine AQ.blockN ?_
    refine AQ.thenN ?_
    refine AW.region ?_
    refine AO.op (O.add rfl rfl rfl (by exact wI64 (by omega))) rfl rfl rfl ?_
    refine AO.op (O.move rfl rfl) rfl rfl rfl ?_
    refine AO.nil ?_
    refine AQ.loopKN _ _ _ (by omega) (⟨k + 1, z * 256 + ((bt l k).toNat : Int), by omega, hs.symm, rfl, rfl, rfl⟩) (by repeat (first | exact envNil | refine envCons rfl ?_)) (by repeat (first | exact envNil | refine envCons rfl ?_)) (by repeat (exact subPnil))
  · skip
    obtain rfl : k = l.length := by omega
    rw [List.take_length] at hz
    subst hz
    refine AW.exit ?_
    refine AQ.thenX ?_
    refine AQ.loopX ?_
    refine AQ.blockX rfl ?_
    refine AQ.thenN ?_
    refine AW.seq ?_
    refine AW.region ?_
    refine AO.op (O.move rfl rfl) rfl rfl rfl ?_
    refine AO.op (O.assign rfl rfl) rfl rfl rfl ?_
    refine AO.op (O.assign rfl rfl) rfl rfl rfl ?_
    refine AO.nil ?_
    refine AQ.thenN ?_
    refine AW.ret ?_
    refine AQ.ret2 rfl rfl rfl ⟨_, List.nil_sublist _, .nil⟩ (⟨rfl, rfl⟩)
def fromTo (n : Int) (k : Nat) : List UInt8 := ((([16777216, 65536, 256, 1] : List Int).take k).filter fun p => decide (0 < n / p)).map fun p => u8 (n / p)
theorem fromTo_succ (n : Int) {k : Nat} {p : Int} (h : ([16777216, 65536, 256, 1] : List Int)[k]? = some p) : fromTo n (k + 1) = fromTo n k ++ if 0 < n / p then [u8 (n / p)] else [] := by
  unfold fromTo
  rw [List.take_add_one, h, Option.toList_some, List.filter_append, List.map_append]
  congr 1
  by_cases e : 0 < n / p
  · rw [if_pos e, List.filter_cons_of_pos (by simpa using e)]; rfl
  · rw [if_neg e, List.filter_cons_of_neg (by simpa using e)]; rfl
theorem fromuint_fn (n : Int) (hn : 0 ≤ n ∧ n < 4294967296) : Sp Tryz.prog 16 [.val (.int .i64 n)] [] (Is (roB (fromU n))) := by
  refine Sp.enter Tryz.func16 rfl _ Tryz.ntmps16 rfl (fun w0 R0 => ?_)
  refine AW.seq ?_
  refine AW.region ?_
  refine AO.op (O.assign rfl rfl) rfl rfl rfl ?_
  refine AO.nil ?_
  refine AQ.thenN ?_
  refine AW.seq ?_
  refine AW.seq ?_
  refine AW.region ?_
  refine AO.op (O.move rfl rfl) rfl rfl rfl ?_
  refine AO.op (O.lss rfl rfl rfl (by exact bFalse (by omega))) rfl rfl rfl ?_
  refine AO.op (O.move rfl rfl) rfl rfl rfl ?_
  refine AO.op (O.move rfl rfl) rfl rfl rfl ?_
  refine AO.op (O.gtr rfl rfl rfl (by exact bFalse (by omega))) rfl rfl rfl ?_
  refine AO.op (O.pickF rfl rfl rfl) rfl rfl rfl ?_
  refine AO.nil ?_
  refine AQ.thenN ?_
  refine AW.condF rfl ?_
  refine AW.skip ?_
  refine AQ.thenN ?_
  refine AW.seq ?_
  refine AW.region ?_
  refine AO.op (O.assign rfl rfl) rfl rfl rfl ?_
  refine AO.nil ?_
  refine AQ.thenN ?_
  refine AW.seq ?_
  refine AW.seq ?_
  refine AW.region ?_
  refine AO.op (O.assign rfl rfl) rfl rfl rfl ?_
  refine AO.nil ?_
  refine AQ.thenN ?_
  refine AW.block ?_
  refine AW.g ?_
  refine G.nilRow 5 1 ?_
  refine AW.u ?_
  refine AW.loopK [(0, _)] (fun nn E H => ∃ (k : Nat) (V : Value) (l : List UInt8), (k ≤ 4) ∧ (V.oneCell' = true) ∧ (l = fromTo n k) ∧ (l.length ≤ k) ∧ nn = 5 - k ∧ E = [(3, .val V), (4, .val (.int .i64 (24 - 8 * (k : Int))))] ∧ H = [.row V 5 1 l.length (bytesA l)]) _ (⟨0, _, [], by omega, rfl, rfl, by simp, rfl, rfl, rfl⟩) (by repeat (first | exact envNil | refine envCons rfl ?_)) (by repeat (first | exact envNil | refine envCons rfl ?_)) (by repeat (first | exact subPnil | refine subPcons 0 rfl ?_)) ?_
  rintro nn E H ⟨k, V, l, hk, hV, hl, hll, rfl, rfl, rfl⟩
  dsimp only [List.cons_append, List.nil_append]
  obtain rfl | rfl | rfl | rfl | rfl : k = 0 ∨ k = 1 ∨ k = 2 ∨ k = 3 ∨ k = 4 := by omega
  · skip
    have hs := fromTo_succ n (k := 0) (p := 16777216) rfl
    have hd : 0 ≤ n / 16777216 := Int.ediv_nonneg hn.1 (by decide)
    refine AW.seq ?_
    refine AW.seq ?_
    refine AW.region ?_
    refine AO.op (O.move rfl rfl) rfl rfl rfl ?_
    refine AO.op (O.geq rfl rfl rfl (by exact bTrue (by omega))) rfl rfl rfl ?_
    refine AO.nil ?_
    refine AQ.thenN ?_
    refine AW.condT rfl ?_
    refine AW.skip ?_
    refine AQ.thenN ?_
    refine AW.seq ?_
    refine AW.block ?_
    refine AW.seq ?_
    refine AW.region ?_
    refine AO.op (O.move rfl rfl) rfl rfl rfl ?_
    refine AO.op (O.move rfl rfl) rfl rfl rfl ?_
    refine AO.op (O.shrK 24 16777216 rfl rfl rfl (by rfl) (by rfl)) rfl rfl rfl ?_
    refine AO.op (O.gtr rfl rfl rfl (by rfl)) rfl rfl rfl ?_
    refine AO.nil ?_
    refine AQ.thenN ?_
    refine AW.split rfl (fun h1 => ?_) (fun h1 => ?_) <;> (try simp only [decide_eq_true_eq, decide_eq_false_iff_not, beq_iff_eq, beq_eq_false_iff_ne, bne_iff_ne, bne_eq_false_iff_eq, Bool.not_eq_true', Bool.not_eq_false', Bool.not_eq_true, Bool.not_eq_false, ne_eq, Int.not_lt, Int.not_le, Bool.and_eq_true, Bool.or_eq_true, Bool.or_eq_false_iff, Bool.and_eq_false_imp, strOf_toList, Decidable.not_not] at h1)
    · skip
      rw [if_pos h1, ← hl] at hs
      refine AW.region ?_
      refine AO.op (O.move rfl rfl) rfl rfl rfl ?_
      refine AO.op (O.move rfl rfl) rfl rfl rfl ?_
      refine AO.op (O.move rfl rfl) rfl rfl rfl ?_
      refine AO.op (O.shrK 24 16777216 rfl rfl rfl (by rfl) (by rfl)) rfl rfl rfl ?_
      refine AO.op (O.conv rfl rfl wU8any) rfl rfl rfl ?_
      refine AO.opB (O.buildSlice rfl rfl rfl (by rfl) (by rfl) (by rfl) (by rfl)) rfl rfl rfl ?_
      intro B1
      refine AO.g ?_
      (refine G.freezeSl 0 24 rfl rfl ⟨Nat.le_refl _, by unfold maxLen; omega⟩ ?_)
      refine G.unfull 24 rfl ?_
      refine AO.u ?_
      dsimp only [List.eraseIdx]
      (refine AO.append' (i := 0) rfl rfl rfl rfl (by rfl) (by rfl) rfl rfl rfl (by exact SrcA.ro TyD.ax (by rfl) (Nat.le_of_ble_eq_true rfl)) (by rfl) (by (unfold maxLen; omega)) (by omega) (by (dsimp only [List.set, List.cons_append, List.nil_append, List.take, List.drop]; done)) (fun _ => by (dsimp only [List.set]; done)) ?_)
      intro V2 hV2
      refine AO.op (O.assign rfl rfl) rfl rfl rfl ?_
      refine AO.nil ?_
      refine AQ.blockN ?_
      refine AQ.thenN ?_
      refine AW.region ?_
      refine AO.op (O.move rfl rfl) rfl rfl rfl ?_
      refine AO.op (O.sub rfl rfl rfl (by exact wI64 (by omega))) rfl rfl rfl ?_
      refine AO.op (O.assign rfl rfl) rfl rfl rfl ?_
      refine AO.nil ?_
      have hr : l.length + 1 = (fromTo n (0 + 1)).length := by rw [hs, List.length_append]; rfl
      have hr2 : bytesA l ++ [.val (.int .u8 ((u8 (n / 16777216)).toNat : Int))] = bytesA (fromTo n (0 + 1)) := by rw [hs, bytesA_snoc]
      refine AQ.loopKN _ _ _ (by omega) (⟨1, _, fromTo n (0 + 1), by omega, ‹_›, rfl, by omega, rfl, rfl, by rw [← hr, ← hr2]⟩) (by repeat (first | exact envNil | refine envCons rfl ?_)) (by repeat (first | exact envNil | refine envCons rfl ?_)) (by repeat (first | exact subPnil | refine subPcons 0 rfl ?_))
    · skip
      rw [if_neg (by omega), List.append_nil, ← hl] at hs
      refine AW.skip ?_
      refine AQ.blockN ?_
      refine AQ.thenN ?_
      refine AW.region ?_
      refine AO.op (O.move rfl rfl) rfl rfl rfl ?_
      refine AO.op (O.sub rfl rfl rfl (by exact wI64 (by omega))) rfl rfl rfl ?_
      refine AO.op (O.assign rfl rfl) rfl rfl rfl ?_
      refine AO.nil ?_
      refine AQ.loopKN _ _ _ (by omega) (⟨1, V, l, by omega, hV, hs.symm, by omega, rfl, rfl, rfl⟩) (by repeat (first | exact envNil | refine envCons rfl ?_)) (by repeat (first | exact envNil | refine envCons rfl ?_)) (by repeat (first | exact subPnil | refine subPcons 0 rfl ?_))
  · skip
    have hs := fromTo_succ n (k := 1) (p := 65536) rfl
    have hd : 0 ≤ n / 65536 := Int.ediv_nonneg hn.1 (by decide)
    refine AW.seq ?_
    refine AW.seq ?_
    refine AW.region ?_
    refine AO.op (O.move rfl rfl) rfl rfl rfl ?_
    refine AO.op (O.geq rfl rfl rfl (by exact bTrue (by omega))) rfl rfl rfl ?_
    refine AO.nil ?_
    refine AQ.thenN ?_
    refine AW.condT rfl ?_
    refine AW.skip ?_
    refine AQ.thenN ?_
    refine AW.seq ?_
    refine AW.block ?_
    refine AW.seq ?_
    refine AW.region ?_
    refine AO.op (O.move rfl rfl) rfl rfl rfl ?_
    refine AO.op (O.move rfl rfl) rfl rfl rfl ?_
    refine AO.op (O.shrK 16 65536 rfl rfl rfl (by rfl) (by rfl)) rfl rfl rfl ?_
    refine AO.op (O.gtr rfl rfl rfl (by rfl)) rfl rfl rfl ?_
    refine AO.nil ?_
    refine AQ.thenN ?_
    refine AW.split rfl (fun h1 => ?_) (fun h1 => ?_) <;> (try simp only [decide_eq_true_eq, decide_eq_false_iff_not, beq_iff_eq, beq_eq_false_iff_ne, bne_iff_ne, bne_eq_false_iff_eq, Bool.not_eq_true', Bool.not_eq_false', Bool.not_eq_true, Bool.not_eq_false, ne_eq, Int.not_lt, Int.not_le, Bool.and_eq_true, Bool.or_eq_true, Bool.or_eq_false_iff, Bool.and_eq_false_imp, strOf_toList, Decidable.not_not] at h1)
    · skip
      rw [if_pos h1, ← hl] at hs
      refine AW.region ?_
      refine AO.op (O.move rfl rfl) rfl rfl rfl ?_
      refine AO.op (O.move rfl rfl) rfl rfl rfl ?_
      refine AO.op (O.move rfl rfl) rfl rfl rfl ?_
      refine AO.op (O.shrK 16 65536 rfl rfl rfl (by rfl) (by rfl)) rfl rfl rfl ?_
      refine AO.op (O.conv rfl rfl wU8any) rfl rfl rfl ?_
      refine AO.opB (O.buildSlice rfl rfl rfl (by rfl) (by rfl) (by rfl) (by rfl)) rfl rfl rfl ?_
      intro B1
      refine AO.g ?_
      (refine G.freezeSl 0 24 rfl rfl ⟨Nat.le_refl _, by unfold maxLen; omega⟩ ?_)
      refine G.unfull 24 rfl ?_
      refine AO.u ?_
      dsimp only [List.eraseIdx]
      (refine AO.append' (i := 0) rfl rfl rfl rfl (by rfl) (by rfl) rfl rfl rfl (by exact SrcA.ro TyD.ax (by rfl) (Nat.le_of_ble_eq_true rfl)) (by rfl) (by (unfold maxLen; omega)) (by omega) (by (dsimp only [List.set, List.cons_append, List.nil_append, List.take, List.drop]; done)) (fun _ => by (dsimp only [List.set]; done)) ?_)
      intro V2 hV2
      refine AO.op (O.assign rfl rfl) rfl rfl rfl ?_
      refine AO.nil ?_
      refine AQ.blockN ?_
      refine AQ.thenN ?_
      refine AW.region ?_
      refine AO.op (O.move rfl rfl) rfl rfl rfl ?_
      refine AO.op (O.sub rfl rfl rfl (by exact wI64 (by omega))) rfl rfl rfl ?_
      refine AO.op (O.assign rfl rfl) rfl rfl rfl ?_
      refine AO.nil ?_
      have hr : l.length + 1 = (fromTo n (1 + 1)).length := by rw [hs, List.length_append]; rfl
      have hr2 : bytesA l ++ [.val (.int .u8 ((u8 (n / 65536)).toNat : Int))] = bytesA (fromTo n (1 + 1)) := by rw [hs, bytesA_snoc]
      refine AQ.loopKN _ _ _ (by omega) (⟨2, _, fromTo n (1 + 1), by omega, ‹_›, rfl, by omega, rfl, rfl, by rw [← hr, ← hr2]⟩) (by repeat (first | exact envNil | refine envCons rfl ?_)) (by repeat (first | exact envNil | refine envCons rfl ?_)) (by repeat (first | exact subPnil | refine subPcons 0 rfl ?_))
    · skip
      rw [if_neg (by omega), List.append_nil, ← hl] at hs
      refine AW.skip ?_
      refine AQ.blockN ?_
      refine AQ.thenN ?_
      refine AW.region ?_
      refine AO.op (O.move rfl rfl) rfl rfl rfl ?_
      refine AO.op (O.sub rfl rfl rfl (by exact wI64 (by omega))) rfl rfl rfl ?_
      refine AO.op (O.assign rfl rfl) rfl rfl rfl ?_
      refine AO.nil ?_
      refine AQ.loopKN _ _ _ (by omega) (⟨2, V, l, by omega, hV, hs.symm, by omega, rfl, rfl, rfl⟩) (by repeat (first | exact envNil | refine envCons rfl ?_)) (by repeat (first | exact envNil | refine envCons rfl ?_)) (by repeat (first | exact subPnil | refine subPcons 0 rfl ?_))
  · skip
    have hs := fromTo_succ n (k := 2) (p := 256) rfl
    have hd : 0 ≤ n / 256 := Int.ediv_nonneg hn.1 (by decide)
    refine AW.seq ?_
    refine AW.seq ?_
    refine AW.region ?_
    refine AO.op (O.move rfl rfl) rfl rfl rfl ?_
    refine AO.op (O.geq rfl rfl rfl (by exact bTrue (by omega))) rfl rfl rfl ?_
    refine AO.nil ?_
    refine AQ.thenN ?_
    refine AW.condT rfl ?_
    refine AW.skip ?_
    refine AQ.thenN ?_
    refine AW.seq ?_
    refine AW.block ?_
    refine AW.seq ?_
    refine AW.region ?_
    refine AO.op (O.move rfl rfl) rfl rfl rfl ?_
    refine AO.op (O.move rfl rfl) rfl rfl rfl ?_
    refine AO.op (O.shrK 8 256 rfl rfl rfl (by rfl) (by rfl)) rfl rfl rfl ?_
    refine AO.op (O.gtr rfl rfl rfl (by rfl)) rfl rfl rfl ?_
    refine AO.nil ?_
    refine AQ.thenN ?_
    refine AW.split rfl (fun h1 => ?_) (fun h1 => ?_) <;> (try simp only [decide_eq_true_eq, decide_eq_false_iff_not, beq_iff_eq, beq_eq_false_iff_ne, bne_iff_ne, bne_eq_false_iff_eq, Bool.not_eq_true', Bool.not_eq_false', Bool.not_eq_true, Bool.not_eq_false, ne_eq, Int.not_lt, Int.not_le, Bool.and_eq_true, Bool.or_eq_true, Bool.or_eq_false_iff, Bool.and_eq_false_imp, strOf_toList, Decidable.not_not] at h1)
    · skip
      rw [if_pos h1, ← hl] at hs
      refine AW.region ?_
      refine AO.op (O.move rfl rfl) rfl rfl rfl ?_
      refine AO.op (O.move rfl rfl) rfl rfl rfl ?_
      refine AO.op (O.move rfl rfl) rfl rfl rfl ?_
      refine AO.op (O.shrK 8 256 rfl rfl rfl (by rfl) (by rfl)) rfl rfl rfl ?_
      refine AO.op (O.conv rfl rfl wU8any) rfl rfl rfl ?_
      refine AO.opB (O.buildSlice rfl rfl rfl (by rfl) (by rfl) (by rfl) (by rfl)) rfl rfl rfl ?_
      intro B1
      refine AO.g ?_
      (refine G.freezeSl 0 24 rfl rfl ⟨Nat.le_refl _, by unfold maxLen; omega⟩ ?_)
      refine G.unfull 24 rfl ?_
      refine AO.u ?_
      dsimp only [List.eraseIdx]
      (refine AO.append' (i := 0) rfl rfl rfl rfl (by rfl) (by rfl) rfl rfl rfl (by exact SrcA.ro TyD.ax (by rfl) (Nat.le_of_ble_eq_true rfl)) (by rfl) (by (unfold maxLen; omega)) (by omega) (by (dsimp only [List.set, List.cons_append, List.nil_append, List.take, List.drop]; done)) (fun _ => by (dsimp only [List.set]; done)) ?_)
      intro V2 hV2
      refine AO.op (O.assign rfl rfl) rfl rfl rfl ?_
      refine AO.nil ?_
      refine AQ.blockN ?_
      refine AQ.thenN ?_
      refine AW.region ?_
      refine AO.op (O.move rfl rfl) rfl rfl rfl ?_
      refine AO.op (O.sub rfl rfl rfl (by exact wI64 (by omega))) rfl rfl rfl ?_
      refine AO.op (O.assign rfl rfl) rfl rfl rfl ?_
      refine AO.nil ?_
      have hr : l.length + 1 = (fromTo n (2 + 1)).length := by rw [hs, List.length_append]; rfl
      have hr2 : bytesA l ++ [.val (.int .u8 ((u8 (n / 256)).toNat : Int))] = bytesA (fromTo n (2 + 1)) := by rw [hs, bytesA_snoc]
      refine AQ.loopKN _ _ _ (by omega) (⟨3, _, fromTo n (2 + 1), by omega, ‹_›, rfl, by omega, rfl, rfl, by rw [← hr, ← hr2]⟩) (by repeat (first | exact envNil | refine envCons rfl ?_)) (by repeat (first | exact envNil | refine envCons rfl ?_)) (by repeat (first | exact subPnil | refine subPcons 0 rfl ?_))
    · skip
      rw [if_neg (by omega), List.append_nil, ← hl] at hs
      refine AW.skip ?_
      refine AQ.blockN ?_
      refine AQ.thenN ?_
      refine AW.region ?_
      refine AO.op (O.move rfl rfl) rfl rfl rfl ?_
      refine AO.op (O.sub rfl rfl rfl (by exact wI64 (by omega))) rfl rfl rfl ?_
      refine AO.op (O.assign rfl rfl) rfl rfl rfl ?_
      refine AO.nil ?_
      refine AQ.loopKN _ _ _ (by omega) (⟨3, V, l, by omega, hV, hs.symm, by omega, rfl, rfl, rfl⟩) (by repeat (first | exact envNil | refine envCons rfl ?_)) (by repeat (first | exact envNil | refine envCons rfl ?_)) (by repeat (first | exact subPnil | refine subPcons 0 rfl ?_))
  · skip
    have hs := fromTo_succ n (k := 3) (p := 1) rfl
    have hd : 0 ≤ n / 1 := Int.ediv_nonneg hn.1 (by decide)
    refine AW.seq ?_
    refine AW.seq ?_
    refine AW.region ?_
    refine AO.op (O.move rfl rfl) rfl rfl rfl ?_
    refine AO.op (O.geq rfl rfl rfl (by exact bTrue (by omega))) rfl rfl rfl ?_
    refine AO.nil ?_
    refine AQ.thenN ?_
    refine AW.condT rfl ?_
    refine AW.skip ?_
    refine AQ.thenN ?_
    refine AW.seq ?_
    refine AW.block ?_
    refine AW.seq ?_
    refine AW.region ?_
    refine AO.op (O.move rfl rfl) rfl rfl rfl ?_
    refine AO.op (O.move rfl rfl) rfl rfl rfl ?_
    refine AO.op (O.shrK 0 1 rfl rfl rfl (by rfl) (by rfl)) rfl rfl rfl ?_
    refine AO.op (O.gtr rfl rfl rfl (by rfl)) rfl rfl rfl ?_
    refine AO.nil ?_
    refine AQ.thenN ?_
    refine AW.split rfl (fun h1 => ?_) (fun h1 => ?_) <;> (try simp only [decide_eq_true_eq, decide_eq_false_iff_not, beq_iff_eq, beq_eq_false_iff_ne, bne_iff_ne, bne_eq_false_iff_eq, Bool.not_eq_true', Bool.not_eq_false', Bool.not_eq_true, Bool.not_eq_false, ne_eq, Int.not_lt, Int.not_le, Bool.and_eq_true, Bool.or_eq_true, Bool.or_eq_false_iff, Bool.and_eq_false_imp, strOf_toList, Decidable.not_not] at h1)
    · skip
      rw [if_pos h1, ← hl] at hs
      refine AW.region ?_
      refine AO.op (O.move rfl rfl) rfl rfl rfl ?_
      refine AO.op (O.move rfl rfl) rfl rfl rfl ?_
      refine AO.op (O.move rfl rfl) rfl rfl rfl ?_
      refine AO.op (O.shrK 0 1 rfl rfl rfl (by rfl) (by rfl)) rfl rfl rfl ?_
      refine AO.op (O.conv rfl rfl wU8any) rfl rfl rfl ?_
      refine AO.opB (O.buildSlice rfl rfl rfl (by rfl) (by rfl) (by rfl) (by rfl)) rfl rfl rfl ?_
      intro B1
      refine AO.g ?_
      (refine G.freezeSl 0 24 rfl rfl ⟨Nat.le_refl _, by unfold maxLen; omega⟩ ?_)
      refine G.unfull 24 rfl ?_
      refine AO.u ?_
      dsimp only [List.eraseIdx]
      (refine AO.append' (i := 0) rfl rfl rfl rfl (by rfl) (by rfl) rfl rfl rfl (by exact SrcA.ro TyD.ax (by rfl) (Nat.le_of_ble_eq_true rfl)) (by rfl) (by (unfold maxLen; omega)) (by omega) (by (dsimp only [List.set, List.cons_append, List.nil_append, List.take, List.drop]; done)) (fun _ => by (dsimp only [List.set]; done)) ?_)
      intro V2 hV2
      refine AO.op (O.assign rfl rfl) rfl rfl rfl ?_
      refine AO.nil ?_
      refine AQ.blockN ?_
      refine AQ.thenN ?_
      refine AW.region ?_
      refine AO.op (O.move rfl rfl) rfl rfl rfl ?_
      refine AO.op (O.sub rfl rfl rfl (by exact wI64 (by omega))) rfl rfl rfl ?_
      refine AO.op (O.assign rfl rfl) rfl rfl rfl ?_
      refine AO.nil ?_
      have hr : l.length + 1 = (fromTo n (3 + 1)).length := by rw [hs, List.length_append]; rfl
      have hr2 : bytesA l ++ [.val (.int .u8 ((u8 (n / 1)).toNat : Int))] = bytesA (fromTo n (3 + 1)) := by rw [hs, bytesA_snoc]
      refine AQ.loopKN _ _ _ (by omega) (⟨4, _, fromTo n (3 + 1), by omega, ‹_›, rfl, by omega, rfl, rfl, by rw [← hr, ← hr2]⟩) (by repeat (first | exact envNil | refine envCons rfl ?_)) (by repeat (first | exact envNil | refine envCons rfl ?_)) (by repeat (first | exact subPnil | refine subPcons 0 rfl ?_))
    · skip
      rw [if_neg (by omega), List.append_nil, ← hl] at hs
      refine AW.skip ?_
      refine AQ.blockN ?_
      refine AQ.thenN ?_
      refine AW.region ?_
      refine AO.op (O.move rfl rfl) rfl rfl rfl ?_
      refine AO.op (O.sub rfl rfl rfl (by exact wI64 (by omega))) rfl rfl rfl ?_
      refine AO.op (O.assign rfl rfl) rfl rfl rfl ?_
      refine AO.nil ?_
      refine AQ.loopKN _ _ _ (by omega) (⟨4, V, l, by omega, hV, hs.symm, by omega, rfl, rfl, rfl⟩) (by repeat (first | exact envNil | refine envCons rfl ?_)) (by repeat (first | exact envNil | refine envCons rfl ?_)) (by repeat (first | exact subPnil | refine subPcons 0 rfl ?_))
  · skip
    refine AW.seq ?_
    refine AW.seq ?_
    refine AW.region ?_
    refine AO.op (O.move rfl rfl) rfl rfl rfl ?_
    refine AO.op (O.geq rfl rfl rfl (by exact bFalse (by omega))) rfl rfl rfl ?_
    refine AO.nil ?_
    refine AQ.thenN ?_
    refine AW.condF rfl ?_
    refine AW.exit ?_
    refine AQ.thenX ?_
    refine AQ.loopX ?_
    refine AQ.blockX rfl ?_
    refine AQ.thenN ?_
    refine AW.seq ?_
    refine AW.region ?_
    refine AO.op (O.move rfl rfl) rfl rfl rfl ?_
    refine AO.op (O.assign rfl rfl) rfl rfl rfl ?_
    refine AO.nil ?_
    refine AQ.thenN ?_
    refine AW.ret ?_
    refine AQ.g ?_
    refine G.freezeRow 0 rfl [2] (by repeat (first | exact frNil | refine frCons rfl ?_)) ?_
    refine AQ.u ?_
    try dsimp only [List.map, List.eraseIdx, List.cons_append, List.nil_append]
    refine AQ.ret1 rfl rfl ⟨_, List.nil_sublist _, .nil⟩ (⟨by rw [hl]; rfl, rfl⟩)
  skip
end Go.Proofs.YtoonnnifelnaiaaGreatDoor.By

namespace Go.Proofs.YtoonnnifelnaiaaGreatDoor.By
open Go.RowKit L A
set_option linter.unusedVariables false
set_option maxRecDepth 20000
set_option linter.unusedSimpArgs false
attribute [local irreducible] AW AQ AO
def bsA (vs : List (List UInt8)) : List AV := vs.map roB
def roBs (vs : List (List UInt8)) : AV := .ro false vs.length (bsA vs)
def allV (os : List Opt) (n : Int) : List (List UInt8) := (os.filter fun o => o.num == n).map Opt.val
@[simp] theorem bsA_len (vs : List (List UInt8)) : (bsA vs).length = vs.length := by simp [bsA]
abbrev vat (vs : List (List UInt8)) (k : Nat) : List UInt8 := vs.getD k []
theorem bsA_at {vs : List (List UInt8)} {k : Nat} (h : k < vs.length) {j : Nat} (hj : j = k) : (bsA vs)[j]? = some (roB (vat vs k)) := by
  subst hj; simp [bsA, h, vat]
end Go.Proofs.YtoonnnifelnaiaaGreatDoor.By

namespace Go.Proofs.YtoonnnifelnaiaaGreatDoor.By
open Go.RowKit L A
set_option linter.unusedVariables false
set_option maxRecDepth 20000
set_option linter.unusedSimpArgs false
attribute [local irreducible] AW AQ AO
def ltO (os : List Opt) (n : Int) : List Opt := os.filter fun o => decide (o.num < n)
def gtO (os : List Opt) (n : Int) : List Opt := os.filter fun o => decide (n < o.num)
def eqO (n : Int) (vs : List (List UInt8)) : List Opt := vs.map fun v => ⟨n, v⟩
def setO (os : List Opt) (n : Int) (vs : List (List UInt8)) : List Opt := ltO os n ++ eqO n vs ++ gtO os n
theorem ltO_snoc (os : List Opt) (o : Opt) (n : Int) : ltO (os ++ [o]) n = if o.num < n then ltO os n ++ [o] else ltO os n := by
  unfold ltO
  rw [List.filter_append]
  by_cases h : o.num < n <;> simp [h]
theorem gtO_snoc (os : List Opt) (o : Opt) (n : Int) : gtO (os ++ [o]) n = if n < o.num then gtO os n ++ [o] else gtO os n := by
  unfold gtO
  rw [List.filter_append]
  by_cases h : n < o.num <;> simp [h]
theorem ltO_len (os : List Opt) (n : Int) : (ltO os n).length ≤ os.length := List.length_filter_le _ _
theorem gtO_len (os : List Opt) (n : Int) : (gtO os n).length ≤ os.length := List.length_filter_le _ _
theorem eqO_len (n : Int) (vs : List (List UInt8)) : (eqO n vs).length = vs.length := by simp [eqO]
theorem setO_mem {os : List Opt} {n : Int} {vs : List (List UInt8)} {o : Opt} (h : o ∈ setO os n vs) : o ∈ os ∨ ∃ v ∈ vs, o = ⟨n, v⟩ := by
  unfold setO ltO gtO eqO at h
  simp only [List.mem_append, List.mem_filter, List.mem_map] at h
  rcases h with (h | ⟨v, h, rfl⟩) | h
  · exact .inl h.1
  · exact .inr ⟨v, h, rfl⟩
  · exact .inl h.1
theorem setO_len (os : List Opt) (n : Int) (vs : List (List UInt8)) : (setO os n vs).length ≤ os.length + os.length + vs.length := by
  have := ltO_len os n
  have := gtO_len os n
  simp only [setO, List.length_append, eqO_len]; omega
end Go.Proofs.YtoonnnifelnaiaaGreatDoor.By

namespace Go.Proofs.YtoonnnifelnaiaaGreatDoor.By
open Go.RowKit L A
set_option linter.unusedVariables false
set_option maxRecDepth 20000
set_option linter.unusedSimpArgs false
attribute [local irreducible] AW AQ AO
set_option maxHeartbeats 4000000 in
theorem owned_fn (m : Msg) (os : List Opt) (h1 : m.tok.length ≤ 140737488355328) (h2 : m.pay.length ≤ 140737488355328) (h3 : os.length ≤ 1000000) (hat : ∀ o ∈ os, o.val.length ≤ 140737488355328) :
    Sp Tryz.prog 48 [aggM m, roO os] [] (Is (aggM ⟨m.ty, m.code, m.id, m.tok, os, m.pay⟩)) := by
  refine Sp.enter Tryz.func48 rfl _ Tryz.ntmps48 rfl (fun w0 R0 => ?_)
  refine AW.seq ?_
  refine AW.region ?_
  refine AO.opB (O.box rfl rfl rfl rfl rfl) rfl rfl rfl ?_
  intro B1
  refine AO.opB (O.alloc rfl (by (dsimp only [zerosA, List.replicate, List.append, List.flatten, AV.cells, Value.cells, List.toList_toArray, List.map]; done)) (by rfl)) rfl rfl rfl ?_
  intro B2
  refine AO.nil ?_
  refine AQ.thenN ?_
  refine AW.seq ?_
  refine AW.regionD 7 (by kernel_rfl) (by kernel_rfl) ?_
  simp only [List.take_succ_cons, List.take_zero, List.drop_succ_cons, List.drop_zero]
  refine FA.op (O.fieldAddr rfl rfl) rfl rfl rfl rfl ?_
  refine FA.op (O.load rfl rfl (by repeat (first | exact List.Mem.head _ | refine List.Mem.tail _ ?_)) (by rfl)) rfl rfl rfl rfl ?_
  refine FA.op (O.call rfl Tryz.func49 rfl rfl rfl (clone_fn _ (by assumption))) rfl rfl rfl rfl ?_
  refine FA.op (O.fieldAddr rfl rfl) rfl rfl rfl rfl ?_
  refine FA.op (O.load rfl rfl (by repeat (first | exact List.Mem.head _ | refine List.Mem.tail _ ?_)) (by rfl)) rfl rfl rfl rfl ?_
  refine FA.op (O.call rfl Tryz.func49 rfl rfl rfl (clone_fn _ (by assumption))) rfl rfl rfl rfl ?_
  refine FA.op (O.fieldAddr rfl rfl) rfl rfl rfl rfl ?_
  refine FA.nil ?_
  simp only [chosen, List.nil_append, List.cons_append, List.append_nil]
  (refine AO.store (i := 1) rfl rfl rfl rfl rfl rfl (by rfl) (by rfl) (by rfl) (by (dsimp only [List.set, List.cons_append, List.nil_append, List.take, List.drop]; done)) (by (dsimp only [List.set, List.cons_append, List.nil_append, List.take, List.drop]; done)) ?_)
  refine AO.op (O.fieldAddr rfl rfl) rfl rfl rfl ?_
  (refine AO.store (i := 1) rfl rfl rfl rfl rfl rfl (by rfl) (by rfl) (by rfl) (by (dsimp only [List.set, List.cons_append, List.nil_append, List.take, List.drop]; done)) (by (dsimp only [List.set, List.cons_append, List.nil_append, List.take, List.drop]; done)) ?_)
  refine AO.nil ?_
  refine AQ.thenN ?_
  refine AW.seq ?_
  refine AW.region ?_
  refine AO.op (O.fieldAddr rfl rfl) rfl rfl rfl ?_
  (refine AO.store (i := 1) rfl rfl rfl rfl rfl rfl (by rfl) (by rfl) (by rfl) (by (dsimp only [List.set, List.cons_append, List.nil_append, List.take, List.drop]; done)) (by (dsimp only [List.set, List.cons_append, List.nil_append, List.take, List.drop]; done)) ?_)
  refine AO.nil ?_
  refine AQ.thenN ?_
  refine AW.seq ?_
  refine AW.seq ?_
  refine AW.region ?_
  refine AO.op (O.move rfl rfl) rfl rfl rfl ?_
  refine AO.op (O.lenR rfl rfl) rfl rfl rfl ?_
  refine AO.op (O.move rfl rfl) rfl rfl rfl ?_
  refine AO.nil ?_
  refine AQ.thenN ?_
  refine AW.block ?_
  refine AW.g ?_
  refine G.nilRow 74 2 ?_
  refine AW.u ?_
  refine AW.loopK [(2, _), (4, _), (16, _), (17, _)] (fun nn E H => ∃ (k : Nat) (V : Value), (k ≤ os.length) ∧ (V.oneCell' = true) ∧ nn = os.length - k ∧ E = [(18, .val (.int .i64 (k : Int)))] ∧ H = [.row V 74 2 k (optsA (os.take k)), .blk B2 41 6 [.val (.int .i64 0), .val (.int .i64 0), .val (.int .i64 0), .val (.slice none 0 0), .val (.slice none 0 0), .val (.slice none 0 0)], .blk B1 41 6 [.val (.int .i64 m.ty), .val (.int .i64 m.code), .val (.int .i64 m.id), roB m.tok, .val V, roB m.pay]]) _ (⟨0, _, by omega, rfl, rfl, rfl, rfl⟩) (by repeat (first | exact envNil | refine envCons rfl ?_)) (by repeat (first | exact envNil | refine envCons rfl ?_)) (by repeat (first | exact subPnil | refine subPcons 0 rfl ?_)) ?_
  rintro nn E H ⟨k, V, h4, hV, rfl, rfl, rfl⟩
  dsimp only [List.cons_append, List.nil_append]
  refine AW.seq ?_
  refine AW.region ?_
  refine AO.op (O.lss rfl rfl rfl (by rfl)) rfl rfl rfl ?_
  refine AO.nil ?_
  refine AQ.thenN ?_
  refine AW.seq ?_
  refine AW.split rfl (fun h5 => ?_) (fun h5 => ?_) <;> (try simp only [decide_eq_true_eq, decide_eq_false_iff_not, beq_iff_eq, beq_eq_false_iff_ne, bne_iff_ne, bne_eq_false_iff_eq, Bool.not_eq_true', Bool.not_eq_false', Bool.not_eq_true, Bool.not_eq_false, ne_eq, Int.not_lt, Int.not_le, Bool.and_eq_true, Bool.or_eq_true, Bool.or_eq_false_iff, Bool.and_eq_false_imp, strOf_toList, Decidable.not_not] at h5)
  · skip
    have hk : k < os.length := by omega
    have hv : (oat os k).val.length ≤ 140737488355328 := hat _ (getD_mem Opt.none hk)
    have hsc : optsA (os.take (k + 1)) = optsA (os.take k) ++ [.val (.int .i64 (oat os k).num), roB (oat os k).val] := by rw [take_snoc Opt.none hk, optsA_snoc]
    refine AW.skip ?_
    refine AQ.thenN ?_
    refine AW.seq ?_
    refine AW.block ?_
    refine AW.seq ?_
    refine AW.region ?_
    refine AO.op (O.idxR rfl rfl rfl ⟨(by omega), (by omega)⟩) rfl rfl rfl ?_
    refine AO.op (O.loadRK rfl rfl (by exact getO (by omega) (by omega)) (by rfl)) rfl rfl rfl ?_
    refine AO.opB (O.alloc rfl (by (dsimp only [zerosA, List.replicate, List.append, List.flatten, AV.cells, Value.cells, List.toList_toArray, List.map]; done)) (by rfl)) rfl rfl rfl ?_
    intro B3
    (refine AO.store (i := 0) rfl rfl rfl rfl rfl rfl (by rfl) (by rfl) (by rfl) (by (dsimp only [List.set, List.cons_append, List.nil_append, List.take, List.drop]; done)) (by (dsimp only [List.set, List.cons_append, List.nil_append, List.take, List.drop]; done)) ?_)
    refine AO.nil ?_
    refine AQ.thenN ?_
    refine AW.regionD 9 (by kernel_rfl) (by kernel_rfl) ?_
    simp only [List.take_succ_cons, List.take_zero, List.drop_succ_cons, List.drop_zero]
    refine FA.op (O.fieldAddr rfl rfl) rfl rfl rfl rfl ?_
    refine FA.op (O.load rfl rfl (by repeat (first | exact List.Mem.head _ | refine List.Mem.tail _ ?_)) (by rfl)) rfl rfl rfl rfl ?_
    refine FA.op (O.fieldAddr rfl rfl) rfl rfl rfl rfl ?_
    refine FA.op (O.load rfl rfl (by repeat (exact List.Mem.head _)) (by rfl)) rfl rfl rfl rfl ?_
    refine FA.op (O.fieldAddr rfl rfl) rfl rfl rfl rfl ?_
    refine FA.op (O.load rfl rfl (by repeat (exact List.Mem.head _)) (by rfl)) rfl rfl rfl rfl ?_
    refine FA.op (O.call rfl Tryz.func49 rfl rfl rfl (clone_fn _ (by assumption))) rfl rfl rfl rfl ?_
    refine FA.op (O.build rfl rfl rfl (by rfl)) rfl rfl rfl rfl ?_
    refine FA.op (OpW.frz (O.buildSlice rfl rfl rfl (by rfl) (by rfl) (by rfl) (by rfl)) (by (unfold maxLen; omega))) rfl rfl rfl rfl ?_
    refine FA.nil ?_
    simp only [chosen, List.nil_append, List.cons_append, List.append_nil]
    (refine AO.append' (i := 1) rfl rfl rfl rfl (by rfl) (by rfl) rfl rfl rfl (by exact SrcA.ro TyD.ax (by rfl) (Nat.le_of_ble_eq_true rfl)) (by rfl) (by (unfold maxLen; omega)) (by omega) (by (dsimp only [List.set, List.cons_append, List.nil_append, List.take, List.drop]; done)) (fun _ => by (dsimp only [List.set]; done)) ?_)
    intro V4 hV4
    refine AO.op (O.fieldAddr rfl rfl) rfl rfl rfl ?_
    (refine AO.store (i := 3) rfl rfl rfl rfl rfl rfl (by (simp [AV.cells, AV.one, *]; done)) (by rfl) (by rfl) (by (dsimp only [List.set, List.cons_append, List.nil_append, List.take, List.drop]; done)) (by (dsimp only [List.set, List.cons_append, List.nil_append, List.take, List.drop]; done)) ?_)
    refine AO.nil ?_
    refine AQ.blockN ?_
    refine AQ.thenN ?_
    refine AW.region ?_
    refine AO.op (O.add rfl rfl rfl (by exact wI64 (by omega))) rfl rfl rfl ?_
    refine AO.op (O.move rfl rfl) rfl rfl rfl ?_
    refine AO.nil ?_
    refine AQ.loopKN _ _ _ (by omega) (⟨k + 1, _, by omega, ‹_›, rfl, rfl, by rw [hsc]⟩) (by repeat (first | exact envNil | refine envCons rfl ?_)) (by repeat (first | exact envNil | refine envCons rfl ?_)) (by repeat (first | exact subPnil | refine subPcons 1 rfl ?_))
  · skip
    obtain rfl : k = os.length := by omega
    rw [List.take_length]
    refine AW.g ?_
    refine G.freezeCell 0 1 4 rfl rfl rfl ?_
    refine AW.u ?_
    refine AW.exit ?_
    refine AQ.thenX ?_
    refine AQ.loopX ?_
    refine AQ.blockX rfl ?_
    refine AQ.thenN ?_
    refine AW.seq ?_
    refine AW.region ?_
    (refine AO.op (O.loadK rfl rfl (by repeat (first | exact List.Mem.head _ | refine List.Mem.tail _ ?_)) (by (dsimp only [List.set, List.cons_append, List.nil_append, List.take, List.drop]; done)) (by rfl)) rfl rfl rfl ?_)
    (refine AO.store (i := 0) rfl rfl rfl rfl rfl rfl (by rfl) (by rfl) (by rfl) (by (dsimp only [List.set, List.cons_append, List.nil_append, List.take, List.drop]; done)) (by (dsimp only [List.set, List.cons_append, List.nil_append, List.take, List.drop]; done)) ?_)
    refine AO.nil ?_
    refine AQ.thenN ?_
    refine AW.ret ?_
    refine AQ.retCell rfl rfl (by repeat (exact List.Mem.head _)) (by (dsimp only [List.set, List.cons_append, List.nil_append, List.take, List.drop]; rfl)) rfl ⟨_, List.nil_sublist _, .nil⟩ (⟨rfl, rfl⟩)
theorem owned_of {m : Msg} {os : List Opt} {N : Nat} {xs : List AV} (e1 : N = os.length) (e2 : xs = optsA os) (h1 : m.tok.length ≤ 140737488355328) (h2 : m.pay.length ≤ 140737488355328) (h3 : os.length ≤ 1000000) (hat : ∀ o ∈ os, o.val.length ≤ 140737488355328) :
    Sp Tryz.prog 48 [aggM m, .ro false N xs] [] (Is (aggM ⟨m.ty, m.code, m.id, m.tok, os, m.pay⟩)) := by
  subst e1; subst e2; exact owned_fn m os h1 h2 h3 hat
set_option maxHeartbeats 4000000 in
theorem oset_fn (m : Msg) (n : Int) (vs : List (List UInt8)) (h1 : m.tok.length ≤ 140737488355328) (h2 : m.pay.length ≤ 140737488355328) (h3 : m.opts.length ≤ 100000) (h4 : vs.length ≤ 100000) (hat : ∀ o ∈ m.opts, o.val.length ≤ 140737488355328) (hvs : ∀ v ∈ vs, v.length ≤ 140737488355328) :
    Sp Tryz.prog 15 [aggM m, .val (.int .i64 n), roBs vs] [] (Is (aggM ⟨m.ty, m.code, m.id, m.tok, setO m.opts n vs, m.pay⟩)) := by
  have hat2 : ∀ o ∈ setO m.opts n vs, o.val.length ≤ 140737488355328 := fun o ho => by
    rcases setO_mem ho with h | ⟨v, h, rfl⟩
    · exact hat o h
    · exact hvs v h
  have hsl := setO_len m.opts n vs
  refine Sp.enter Tryz.func15 rfl _ Tryz.ntmps15 rfl (fun w0 R0 => ?_)
  refine AW.seq ?_
  refine AW.region ?_
  refine AO.opB (O.box rfl rfl rfl rfl rfl) rfl rfl rfl ?_
  intro B1
  refine AO.opB (O.alloc rfl (by (dsimp only [zerosA, List.replicate, List.append, List.flatten, AV.cells, Value.cells, List.toList_toArray, List.map]; done)) (by rfl)) rfl rfl rfl ?_
  intro B2
  refine AO.nil ?_
  refine AQ.thenN ?_
  refine AW.seq ?_
  refine AW.region ?_
  refine AO.op (O.assign rfl rfl) rfl rfl rfl ?_
  refine AO.op (O.assign rfl rfl) rfl rfl rfl ?_
  refine AO.nil ?_
  refine AQ.thenN ?_
  refine AW.seq ?_
  refine AW.seq ?_
  refine AW.region ?_
  refine AO.op (O.fieldAddr rfl rfl) rfl rfl rfl ?_
  refine AO.op (O.load rfl rfl (by repeat (first | exact List.Mem.head _ | refine List.Mem.tail _ ?_)) (by rfl)) rfl rfl rfl ?_
  refine AO.op (O.lenR rfl rfl) rfl rfl rfl ?_
  refine AO.op (O.move rfl rfl) rfl rfl rfl ?_
  refine AO.nil ?_
  refine AQ.thenN ?_
  refine AW.block ?_
  refine AW.g ?_
  refine G.nilRow 74 2 ?_
  refine AW.u ?_
  refine AW.g ?_
  refine G.nilRow 74 2 ?_
  refine AW.u ?_
  refine AW.loopK [(1, _), (2, _), (3, _), (6, _), (14, _), (15, _)] (fun nn E H => ∃ (k : Nat) (V V' : Value), (k ≤ m.opts.length) ∧ (V.oneCell' = true) ∧ (V'.oneCell' = true) ∧ nn = m.opts.length - k ∧ E = [(7, .val V), (8, .val V'), (16, .val (.int .i64 (k : Int)))] ∧ H = [.row V 74 2 (ltO (m.opts.take k) n).length (optsA (ltO (m.opts.take k) n)), .row V' 74 2 (gtO (m.opts.take k) n).length (optsA (gtO (m.opts.take k) n)), .blk B2 41 6 [.val (.int .i64 0), .val (.int .i64 0), .val (.int .i64 0), .val (.slice none 0 0), .val (.slice none 0 0), .val (.slice none 0 0)], .blk B1 41 6 [.val (.int .i64 m.ty), .val (.int .i64 m.code), .val (.int .i64 m.id), roB m.tok, roO m.opts, roB m.pay]]) _ (⟨0, _, _, by omega, rfl, rfl, rfl, rfl, rfl⟩) (by repeat (first | exact envNil | refine envCons rfl ?_)) (by repeat (first | exact envNil | refine envCons rfl ?_)) (by repeat (first | exact subPnil | refine subPcons 0 rfl ?_)) ?_
  rintro nn E H ⟨k, V, V', h5, hV, hV', rfl, rfl, rfl⟩
  dsimp only [List.cons_append, List.nil_append]
  have hl1 := ltO_len (m.opts.take k) n
  have hl2 := gtO_len (m.opts.take k) n
  rw [List.length_take] at hl1 hl2
  refine AW.seq ?_
  refine AW.region ?_
  refine AO.op (O.lss rfl rfl rfl (by rfl)) rfl rfl rfl ?_
  refine AO.nil ?_
  refine AQ.thenN ?_
  refine AW.seq ?_
  refine AW.split rfl (fun h6 => ?_) (fun h6 => ?_) <;> (try simp only [decide_eq_true_eq, decide_eq_false_iff_not, beq_iff_eq, beq_eq_false_iff_ne, bne_iff_ne, bne_eq_false_iff_eq, Bool.not_eq_true', Bool.not_eq_false', Bool.not_eq_true, Bool.not_eq_false, ne_eq, Int.not_lt, Int.not_le, Bool.and_eq_true, Bool.or_eq_true, Bool.or_eq_false_iff, Bool.and_eq_false_imp, strOf_toList, Decidable.not_not] at h6)
  · skip
    have hk : k < m.opts.length := by omega
    have hsc := ltO_snoc (m.opts.take k) (oat m.opts k) n
    have hsg := gtO_snoc (m.opts.take k) (oat m.opts k) n
    rw [← take_snoc Opt.none hk] at hsc hsg
    refine AW.skip ?_
    refine AQ.thenN ?_
    refine AW.seq ?_
    refine AW.block ?_
    refine AW.seq ?_
    refine AW.region ?_
    refine AO.op (O.idxR rfl rfl rfl ⟨(by omega), (by omega)⟩) rfl rfl rfl ?_
    refine AO.op (O.loadRK rfl rfl (by exact getO (by omega) (by omega)) (by rfl)) rfl rfl rfl ?_
    refine AO.opB (O.alloc rfl (by (dsimp only [zerosA, List.replicate, List.append, List.flatten, AV.cells, Value.cells, List.toList_toArray, List.map]; done)) (by rfl)) rfl rfl rfl ?_
    intro B3
    (refine AO.store (i := 0) rfl rfl rfl rfl rfl rfl (by rfl) (by rfl) (by rfl) (by (dsimp only [List.set, List.cons_append, List.nil_append, List.take, List.drop]; done)) (by (dsimp only [List.set, List.cons_append, List.nil_append, List.take, List.drop]; done)) ?_)
    refine AO.nil ?_
    refine AQ.thenN ?_
    refine AW.block ?_
    refine AW.seq ?_
    refine AW.region ?_
    refine AO.op (O.fieldAddr rfl rfl) rfl rfl rfl ?_
    refine AO.op (O.load rfl rfl (by repeat (exact List.Mem.head _)) (by rfl)) rfl rfl rfl ?_
    refine AO.op (O.move rfl rfl) rfl rfl rfl ?_
    refine AO.op (O.lss rfl rfl rfl (by rfl)) rfl rfl rfl ?_
    refine AO.op (O.assign rfl rfl) rfl rfl rfl ?_
    refine AO.nil ?_
    refine AQ.thenN ?_
    refine AW.split rfl (fun h7 => ?_) (fun h7 => ?_) <;> (try simp only [decide_eq_true_eq, decide_eq_false_iff_not, beq_iff_eq, beq_eq_false_iff_ne, bne_iff_ne, bne_eq_false_iff_eq, Bool.not_eq_true', Bool.not_eq_false', Bool.not_eq_true, Bool.not_eq_false, ne_eq, Int.not_lt, Int.not_le, Bool.and_eq_true, Bool.or_eq_true, Bool.or_eq_false_iff, Bool.and_eq_false_imp, strOf_toList, Decidable.not_not] at h7)
    · skip
      rw [if_pos h7] at hsc
      rw [if_neg (by omega)] at hsg
      refine AW.region ?_
      refine AO.op (O.move rfl rfl) rfl rfl rfl ?_
      (refine AO.op (O.loadK rfl rfl (by repeat (exact List.Mem.head _)) (by (dsimp only [List.set, List.cons_append, List.nil_append, List.take, List.drop]; done)) (by rfl)) rfl rfl rfl ?_)
      refine AO.opB (O.buildSlice rfl rfl rfl (by rfl) (by rfl) (by rfl) (by rfl)) rfl rfl rfl ?_
      intro B4
      refine AO.g ?_
      (refine G.freezeSl 0 27 rfl rfl ⟨Nat.le_refl _, by unfold maxLen; omega⟩ ?_)
      refine G.unfull 27 rfl ?_
      refine AO.u ?_
      dsimp only [List.eraseIdx]
      (refine AO.append' (i := 1) rfl rfl rfl rfl (by rfl) (by rfl) rfl rfl rfl (by exact SrcA.ro TyD.ax (by rfl) (Nat.le_of_ble_eq_true rfl)) (by rfl) (by (unfold maxLen; omega)) (by omega) (by (dsimp only [List.set, List.cons_append, List.nil_append, List.take, List.drop]; done)) (fun _ => by (dsimp only [List.set]; done)) ?_)
      intro V5 hV5
      refine AO.op (O.assign rfl rfl) rfl rfl rfl ?_
      refine AO.nil ?_
      refine AQ.blockN ?_
      refine AQ.blockN ?_
      refine AQ.thenN ?_
      refine AW.region ?_
      refine AO.op (O.add rfl rfl rfl (by exact wI64 (by omega))) rfl rfl rfl ?_
      refine AO.op (O.move rfl rfl) rfl rfl rfl ?_
      refine AO.nil ?_
      refine AQ.loopKN _ _ _ (by omega) (⟨k + 1, _, V', by omega, ‹_›, hV', rfl, rfl, by rw [hsc, hsg, optsA_snoc, List.length_append]⟩) (by repeat (first | exact envNil | refine envCons rfl ?_)) (by repeat (first | exact envNil | refine envCons rfl ?_)) (by repeat (first | exact subPnil | refine subPcons 1 rfl ?_))
    · skip
      rw [if_neg (by omega)] at hsc
      refine AW.seq ?_
      refine AW.region ?_
      refine AO.op (O.fieldAddr rfl rfl) rfl rfl rfl ?_
      refine AO.op (O.load rfl rfl (by repeat (exact List.Mem.head _)) (by rfl)) rfl rfl rfl ?_
      refine AO.op (O.move rfl rfl) rfl rfl rfl ?_
      refine AO.op (O.gtr rfl rfl rfl (by rfl)) rfl rfl rfl ?_
      refine AO.op (O.assign rfl rfl) rfl rfl rfl ?_
      refine AO.nil ?_
      refine AQ.thenN ?_
      refine AW.split rfl (fun h8 => ?_) (fun h8 => ?_) <;> (try simp only [decide_eq_true_eq, decide_eq_false_iff_not, beq_iff_eq, beq_eq_false_iff_ne, bne_iff_ne, bne_eq_false_iff_eq, Bool.not_eq_true', Bool.not_eq_false', Bool.not_eq_true, Bool.not_eq_false, ne_eq, Int.not_lt, Int.not_le, Bool.and_eq_true, Bool.or_eq_true, Bool.or_eq_false_iff, Bool.and_eq_false_imp, strOf_toList, Decidable.not_not] at h8)
      · skip
        rw [if_pos h8] at hsg
        refine AW.region ?_
        refine AO.op (O.move rfl rfl) rfl rfl rfl ?_
        (refine AO.op (O.loadK rfl rfl (by repeat (exact List.Mem.head _)) (by (dsimp only [List.set, List.cons_append, List.nil_append, List.take, List.drop]; done)) (by rfl)) rfl rfl rfl ?_)
        refine AO.opB (O.buildSlice rfl rfl rfl (by rfl) (by rfl) (by rfl) (by rfl)) rfl rfl rfl ?_
        intro B6
        refine AO.g ?_
        (refine G.freezeSl 0 36 rfl rfl ⟨Nat.le_refl _, by unfold maxLen; omega⟩ ?_)
        refine G.unfull 36 rfl ?_
        refine AO.u ?_
        dsimp only [List.eraseIdx]
        (refine AO.append' (i := 2) rfl rfl rfl rfl (by rfl) (by rfl) rfl rfl rfl (by exact SrcA.ro TyD.ax (by rfl) (Nat.le_of_ble_eq_true rfl)) (by rfl) (by (unfold maxLen; omega)) (by omega) (by (dsimp only [List.set, List.cons_append, List.nil_append, List.take, List.drop]; done)) (fun _ => by (dsimp only [List.set]; done)) ?_)
        intro V7 hV7
        refine AO.op (O.assign rfl rfl) rfl rfl rfl ?_
        refine AO.nil ?_
        refine AQ.blockN ?_
        refine AQ.blockN ?_
        refine AQ.thenN ?_
        refine AW.region ?_
        refine AO.op (O.add rfl rfl rfl (by exact wI64 (by omega))) rfl rfl rfl ?_
        refine AO.op (O.move rfl rfl) rfl rfl rfl ?_
        refine AO.nil ?_
        refine AQ.loopKN _ _ _ (by omega) (⟨k + 1, V, _, by omega, hV, ‹_›, rfl, rfl, by rw [hsc, hsg, optsA_snoc, List.length_append]⟩) (by repeat (first | exact envNil | refine envCons rfl ?_)) (by repeat (first | exact envNil | refine envCons rfl ?_)) (by repeat (first | exact subPnil | refine subPcons 1 rfl ?_))
      · skip
        rw [if_neg (by omega)] at hsg
        refine AW.skip ?_
        refine AQ.blockN ?_
        refine AQ.blockN ?_
        refine AQ.thenN ?_
        refine AW.region ?_
        refine AO.op (O.add rfl rfl rfl (by exact wI64 (by omega))) rfl rfl rfl ?_
        refine AO.op (O.move rfl rfl) rfl rfl rfl ?_
        refine AO.nil ?_
        refine AQ.loopKN _ _ _ (by omega) (⟨k + 1, V, V', by omega, hV, hV', rfl, rfl, by rw [hsc, hsg]⟩) (by repeat (first | exact envNil | refine envCons rfl ?_)) (by repeat (first | exact envNil | refine envCons rfl ?_)) (by repeat (first | exact subPnil | refine subPcons 1 rfl ?_))
  · skip
    obtain rfl : k = m.opts.length := by omega
    rw [List.take_length] at hl1 hl2 ⊢
    refine AW.exit ?_
    refine AQ.thenX ?_
    refine AQ.loopX ?_
    refine AQ.blockX rfl ?_
    refine AQ.thenN ?_
    refine AW.seq ?_
    refine AW.seq ?_
    refine AW.region ?_
    refine AO.op (O.move rfl rfl) rfl rfl rfl ?_
    refine AO.op (O.lenR rfl rfl) rfl rfl rfl ?_
    refine AO.op (O.move rfl rfl) rfl rfl rfl ?_
    refine AO.nil ?_
    refine AQ.thenN ?_
    refine AW.block ?_
    refine AW.loopK [(1, _), (3, _), (6, _), (8, _), (39, _), (40, _)] (fun nn E H => ∃ (j : Nat) (V : Value), (j ≤ vs.length) ∧ (V.oneCell' = true) ∧ nn = vs.length - j ∧ E = [(7, .val V), (41, .val (.int .i64 (j : Int)))] ∧ H = [.row V 74 2 (ltO m.opts n ++ eqO n (vs.take j)).length (optsA (ltO m.opts n ++ eqO n (vs.take j))), .row V' 74 2 (gtO m.opts n).length (optsA (gtO m.opts n)), .blk B2 41 6 [.val (.int .i64 0), .val (.int .i64 0), .val (.int .i64 0), .val (.slice none 0 0), .val (.slice none 0 0), .val (.slice none 0 0)], .blk B1 41 6 [.val (.int .i64 m.ty), .val (.int .i64 m.code), .val (.int .i64 m.id), roB m.tok, roO m.opts, roB m.pay]]) _ (⟨0, _, by omega, hV, rfl, rfl, by rw [show ltO m.opts n ++ eqO n (vs.take 0) = ltO m.opts n by simp [eqO]]⟩) (by repeat (first | exact envNil | refine envCons rfl ?_)) (by repeat (first | exact envNil | refine envCons rfl ?_)) (by repeat (first | exact subPnil | refine subPcons 0 rfl ?_)) ?_
    rintro nn E H ⟨j, V, h8, hV, rfl, rfl, rfl⟩
    dsimp only [List.cons_append, List.nil_append]
    have hl3 : (ltO m.opts n ++ eqO n (vs.take j)).length = (ltO m.opts n).length + j := by rw [List.length_append, eqO_len, List.length_take]; omega
    refine AW.seq ?_
    refine AW.region ?_
    refine AO.op (O.lss rfl rfl rfl (by rfl)) rfl rfl rfl ?_
    refine AO.nil ?_
    refine AQ.thenN ?_
    refine AW.seq ?_
    refine AW.split rfl (fun h9 => ?_) (fun h9 => ?_) <;> (try simp only [decide_eq_true_eq, decide_eq_false_iff_not, beq_iff_eq, beq_eq_false_iff_ne, bne_iff_ne, bne_eq_false_iff_eq, Bool.not_eq_true', Bool.not_eq_false', Bool.not_eq_true, Bool.not_eq_false, ne_eq, Int.not_lt, Int.not_le, Bool.and_eq_true, Bool.or_eq_true, Bool.or_eq_false_iff, Bool.and_eq_false_imp, strOf_toList, Decidable.not_not] at h9)
    · skip
      have hj : j < vs.length := by omega
      have hsc : ltO m.opts n ++ eqO n (vs.take (j + 1)) = (ltO m.opts n ++ eqO n (vs.take j)) ++ [⟨n, vat vs j⟩] := by
        rw [take_snoc [] hj]; simp [eqO]
      refine AW.skip ?_
      refine AQ.thenN ?_
      refine AW.seq ?_
      refine AW.block ?_
      refine AW.seq ?_
      refine AW.region ?_
      refine AO.op (O.idxR rfl rfl rfl ⟨(by omega), (by omega)⟩) rfl rfl rfl ?_
      refine AO.op (O.loadR rfl rfl (by exact bsA_at (by omega) (by omega))) rfl rfl rfl ?_
      refine AO.op (O.assign rfl rfl) rfl rfl rfl ?_
      refine AO.nil ?_
      refine AQ.thenN ?_
      refine AW.region ?_
      refine AO.op (O.move rfl rfl) rfl rfl rfl ?_
      refine AO.op (O.move rfl rfl) rfl rfl rfl ?_
      refine AO.op (O.move rfl rfl) rfl rfl rfl ?_
      refine AO.op (O.build rfl rfl rfl (by rfl)) rfl rfl rfl ?_
      refine AO.opB (O.buildSlice rfl rfl rfl (by rfl) (by rfl) (by rfl) (by rfl)) rfl rfl rfl ?_
      intro B8
      refine AO.g ?_
      (refine G.freezeSl 0 49 rfl rfl ⟨Nat.le_refl _, by unfold maxLen; omega⟩ ?_)
      refine G.unfull 49 rfl ?_
      refine AO.u ?_
      dsimp only [List.eraseIdx]
      (refine AO.append' (i := 0) rfl rfl rfl rfl (by rfl) (by rfl) rfl rfl rfl (by exact SrcA.ro TyD.ax (by rfl) (Nat.le_of_ble_eq_true rfl)) (by rfl) (by (unfold maxLen; omega)) (by omega) (by (dsimp only [List.set, List.cons_append, List.nil_append, List.take, List.drop]; done)) (fun _ => by (dsimp only [List.set]; done)) ?_)
      intro V9 hV9
      refine AO.op (O.assign rfl rfl) rfl rfl rfl ?_
      refine AO.nil ?_
      refine AQ.blockN ?_
      refine AQ.thenN ?_
      refine AW.region ?_
      refine AO.op (O.add rfl rfl rfl (by exact wI64 (by omega))) rfl rfl rfl ?_
      refine AO.op (O.move rfl rfl) rfl rfl rfl ?_
      refine AO.nil ?_
      refine AQ.loopKN _ _ _ (by omega) (⟨j + 1, _, by omega, ‹_›, rfl, rfl, by rw [hsc, optsA_snoc, List.length_append]⟩) (by repeat (first | exact envNil | refine envCons rfl ?_)) (by repeat (first | exact envNil | refine envCons rfl ?_)) (by repeat (first | exact subPnil | refine subPcons 0 rfl ?_))
    · skip
      obtain rfl : j = vs.length := by omega
      rw [List.take_length] at hl3 ⊢
      have hlen : (ltO m.opts n ++ eqO n vs).length + (gtO m.opts n).length = (setO m.opts n vs).length := by rw [setO, List.length_append (bs := gtO m.opts n)]
      have hcell : optsA (ltO m.opts n ++ eqO n vs) ++ optsA (gtO m.opts n) = optsA (setO m.opts n vs) := by rw [setO, optsA_app (ltO m.opts n ++ eqO n vs)]
      have hone := optsA_one (gtO m.opts n)
      refine AW.exit ?_
      refine AQ.thenX ?_
      refine AQ.loopX ?_
      refine AQ.blockX rfl ?_
      refine AQ.thenN ?_
      refine AW.seq ?_
      refine AW.regionS [[(0, false), (1, false), (2, false), (3, true)], [(4, false)], [(5, true)]] (by kernel_rfl) (by kernel_rfl) ?_
      refine AMS.go (by exact (splitAt' 0 rfl (splitAt' 0 rfl splitNil))) ?_
      try dsimp only [List.eraseIdx]
      (refine AM.op rfl (O.loadK rfl rfl (by repeat (first | exact List.Mem.head _ | refine List.Mem.tail _ ?_)) (by (dsimp only [List.set, List.cons_append, List.nil_append, List.take, List.drop]; done)) (by rfl)) rfl rfl rfl ?_)
      refine AM.op rfl (O.move rfl rfl) rfl rfl rfl ?_
      refine AM.op rfl (O.move rfl rfl) rfl rfl rfl ?_
      refine AM.main _ rfl (fun w0 R0 => ?_)
      (refine AO.append' (i := 0) rfl rfl rfl rfl (by rfl) (by rfl) rfl rfl rfl (by exact SrcA.row TyD.ax (by repeat (first | exact List.Mem.head _ | refine List.Mem.tail _ ?_)) (by (simp; done))) (by assumption) (by (unfold maxLen; omega)) (by omega) (by (dsimp only [List.set, List.cons_append, List.nil_append, List.take, List.drop]; done)) (fun _ => by (dsimp only [List.set]; done)) ?_)
      intro V10 hV10
      refine AO.g ?_
      refine G.freezeRow 0 rfl [55] (by repeat (first | exact frNil | refine frCons rfl ?_)) ?_
      refine AO.u ?_
      dsimp only [List.map, List.eraseIdx, List.cons_append, List.nil_append]
      refine AM.ok ?_
      dsimp only [putE]
      refine AM.nil ?_
      try dsimp only [List.cons_append, List.nil_append]
      refine AMS.go (by exact splitNil) ?_
      try dsimp only [List.eraseIdx]
      refine AM.op rfl (O.call rfl Tryz.func48 rfl rfl rfl (owned_of (m := m) (os := setO m.opts n vs) hlen hcell h1 h2 (by omega) hat2)) rfl rfl rfl ?_
      refine AM.nil ?_
      try dsimp only [List.cons_append, List.nil_append]
      refine AMS.go (by exact (by exact splitBlk 6 1 rfl rfl splitNil)) ?_
      try dsimp only [List.eraseIdx]
      refine AM.main _ rfl (fun w0 R0 => ?_)
      (refine AO.store (i := 0) rfl rfl rfl rfl rfl rfl (by rfl) (by rfl) (by rfl) (by (dsimp only [List.set, List.cons_append, List.nil_append, List.take, List.drop]; done)) (by (dsimp only [List.set, List.cons_append, List.nil_append, List.take, List.drop]; done)) ?_)
      refine AM.okN ?_
      dsimp only [putE]
      refine AM.nil ?_
      try dsimp only [List.cons_append, List.nil_append]
      refine AMS.nil ?_
      refine AQ.thenN ?_
      refine AW.ret ?_
      refine AQ.retCell rfl rfl (by repeat (exact List.Mem.head _)) (by (dsimp only [List.set, List.cons_append, List.nil_append, List.take, List.drop]; rfl)) rfl ⟨_, List.nil_sublist _, .nil⟩ (⟨rfl, rfl⟩)
end Go.Proofs.YtoonnnifelnaiaaGreatDoor.By

namespace Go.Proofs.YtoonnnifelnaiaaGreatDoor.Ob
open Go.RowKit L A
set_option linter.unusedVariables false
set_option maxRecDepth 20000
set_option linter.unusedSimpArgs false
attribute [local irreducible] AW AQ AO

structure Watch where
  peer : Int
  tok : List UInt8
  key : List UInt8
  seq : Int
  since : Int
  deriving BEq, DecidableEq

def cellsW (p : Int) (tk ky : List UInt8) (s t : Int) : List AV := [.val (.int .i64 p), roB tk, roB ky, .val (.int .i64 s), .val (.int .i64 t)]

def soundB (p : Int) (tk ky : List UInt8) (s t : Int) : Bool := decide (0 ≤ p) && decide (p ≤ 65536) && decide ((tk.length : Int) ≤ 8) && decide ((ky.length : Int) ≤ 4096) && decide (0 ≤ s) && decide (s < 16777216) && decide (0 ≤ t)
def meetsB (p : Int) (tk ky : List UInt8) (p' : Int) (tk' ky' : List UInt8) : Bool := (p == p') && ((tk == tk') || (ky == ky'))

theorem equal_fn (a b : List UInt8) : Sp Tryz.prog 46 [roB a, roB b] [] (Is (.val (.bool (a == b)))) := by
  refine Sp.enter Tryz.func46 rfl _ Tryz.ntmps46 rfl (fun w0 R0 => ?_)
  refine AW.seq ?_
  refine AW.region ?_
  refine AO.op (O.assign rfl rfl) rfl rfl rfl ?_
  refine AO.nil ?_
  refine AQ.thenN ?_
  refine AW.seq ?_
  refine AW.region ?_
  refine AO.op (O.move rfl rfl) rfl rfl rfl ?_
  first | (refine AO.op (O.convS rfl rfl rfl) rfl rfl rfl ?_) | (refine AO.op (O.convSV rfl rfl (by repeat (first | exact List.Mem.head _ | refine List.Mem.tail _ ?_)) rfl) rfl rfl rfl ?_)
  refine AO.op (O.move rfl rfl) rfl rfl rfl ?_
  first | (refine AO.op (O.convS rfl rfl rfl) rfl rfl rfl ?_) | (refine AO.op (O.convSV rfl rfl (by repeat (first | exact List.Mem.head _ | refine List.Mem.tail _ ?_)) rfl) rfl rfl rfl ?_)
  refine AO.op (O.eqlS rfl rfl rfl (by first | assumption | rfl)) rfl rfl rfl ?_
  refine AO.op (O.assign rfl rfl) rfl rfl rfl ?_
  refine AO.nil ?_
  refine AQ.thenN ?_
  refine AW.ret ?_
  refine AQ.ret1 rfl rfl ⟨_, List.nil_sublist _, .nil⟩ (⟨by rw [strOf_toList, strOf_toList], rfl⟩)

set_option maxHeartbeats 1000000 in
theorem sound_fn (p : Int) (tk ky : List UInt8) (s t : Int) : Sp Tryz.prog 40 [.agg (cellsW p tk ky s t)] [] (Is (.val (.bool (soundB p tk ky s t)))) := by
  refine Sp.enter Tryz.func40 rfl _ Tryz.ntmps40 rfl (fun w0 R0 => ?_)
  refine AW.seq ?_
  refine AW.region ?_
  refine AO.opB (O.box rfl rfl rfl rfl rfl) rfl rfl rfl ?_
  intro B
  refine AO.op (O.assign rfl rfl) rfl rfl rfl ?_
  refine AO.nil ?_
  refine AQ.thenN ?_
  refine AW.seq ?_
  refine AW.region ?_
  first | (refine AO.op (O.fieldAddrR rfl rfl) rfl rfl rfl ?_) | (refine AO.op (O.fieldAddr rfl rfl) rfl rfl rfl ?_)
  first | (refine AO.op (O.loadR rfl rfl rfl) rfl rfl rfl ?_) | (refine AO.op (O.load rfl rfl (by repeat (first | exact List.Mem.head _ | refine List.Mem.tail _ ?_)) rfl) rfl rfl rfl ?_)
  refine AO.op (O.geq rfl rfl rfl (by first | exact bTrue (by omega) | exact bFalse (by omega) | assumption | rfl)) rfl rfl rfl ?_
  refine AO.op (O.move rfl rfl) rfl rfl rfl ?_
  first | (refine AO.opG rfl rfl rfl (fun hp => O.fieldAddrR rfl rfl) ?_) | (refine AO.opG rfl rfl rfl (fun hp => O.fieldAddr rfl rfl) ?_) | (refine AO.op (O.fieldAddrR rfl rfl) rfl rfl rfl ?_) | (refine AO.op (O.fieldAddr rfl rfl) rfl rfl rfl ?_) | (refine AO.no rfl rfl rfl ?_)
  first | (refine AO.opG rfl rfl rfl (fun hp => OpW.force 7 rfl (by first | exact hp | simp_all) (O.loadR rfl rfl rfl)) ?_) | (refine AO.opG rfl rfl rfl (fun hp => OpW.force 7 rfl (by first | exact hp | simp_all) (O.load rfl rfl (by repeat (first | exact List.Mem.head _ | refine List.Mem.tail _ ?_)) rfl)) ?_) | (refine AO.op (O.loadR rfl rfl rfl) rfl rfl rfl ?_) | (refine AO.op (O.load rfl rfl (by repeat (first | exact List.Mem.head _ | refine List.Mem.tail _ ?_)) rfl) rfl rfl rfl ?_) | (refine AO.no rfl rfl rfl ?_)
  first | (refine AO.opG rfl rfl rfl (fun hp => OpW.force 8 rfl (by first | exact hp | simp_all) (O.leq rfl rfl rfl (by first | exact bTrue (by omega) | exact bFalse (by omega) | assumption | rfl))) ?_) | (refine AO.op (O.leq rfl rfl rfl (by first | exact bTrue (by omega) | exact bFalse (by omega) | assumption | rfl)) rfl rfl rfl ?_) | (refine AO.no rfl rfl rfl ?_)
  first | (refine AO.op (O.pickAnd rfl rfl rfl rfl (fun h => by first | exact h | simp_all)) rfl rfl rfl ?_) | (refine AO.op (O.pickF rfl rfl rfl) rfl rfl rfl ?_) | (refine AO.op (O.pickT rfl rfl rfl) rfl rfl rfl ?_)
  refine AO.op (O.move rfl rfl) rfl rfl rfl ?_
  first | (refine AO.opG rfl rfl rfl (fun hp => O.fieldAddrR rfl rfl) ?_) | (refine AO.opG rfl rfl rfl (fun hp => O.fieldAddr rfl rfl) ?_) | (refine AO.op (O.fieldAddrR rfl rfl) rfl rfl rfl ?_) | (refine AO.op (O.fieldAddr rfl rfl) rfl rfl rfl ?_) | (refine AO.no rfl rfl rfl ?_)
  first | (refine AO.opG rfl rfl rfl (fun hp => OpW.force 12 rfl (by first | exact hp | simp_all) (O.loadR rfl rfl rfl)) ?_) | (refine AO.opG rfl rfl rfl (fun hp => OpW.force 12 rfl (by first | exact hp | simp_all) (O.load rfl rfl (by repeat (first | exact List.Mem.head _ | refine List.Mem.tail _ ?_)) rfl)) ?_) | (refine AO.op (O.loadR rfl rfl rfl) rfl rfl rfl ?_) | (refine AO.op (O.load rfl rfl (by repeat (first | exact List.Mem.head _ | refine List.Mem.tail _ ?_)) rfl) rfl rfl rfl ?_) | (refine AO.no rfl rfl rfl ?_)
  first | (refine AO.opG rfl rfl rfl (fun hp => OpW.force 13 rfl (by first | exact hp | simp_all) (O.lenR rfl rfl)) ?_) | (refine AO.opG rfl rfl rfl (fun hp => OpW.force 13 rfl (by first | exact hp | simp_all) (O.lenV rfl rfl)) ?_) | (refine AO.opG rfl rfl rfl (fun hp => OpW.force 13 rfl (by first | exact hp | simp_all) (O.lenRow rfl rfl (by repeat (first | exact List.Mem.head _ | refine List.Mem.tail _ ?_)))) ?_) | (refine AO.opG rfl rfl rfl (fun hp => OpW.force 13 rfl (by first | exact hp | simp_all) (O.lenS rfl rfl)) ?_) | (refine AO.op (O.lenR rfl rfl) rfl rfl rfl ?_) | (refine AO.op (O.lenV rfl rfl) rfl rfl rfl ?_) | (refine AO.op (O.lenRow rfl rfl (by repeat (first | exact List.Mem.head _ | refine List.Mem.tail _ ?_))) rfl rfl rfl ?_) | (refine AO.op (O.lenS rfl rfl) rfl rfl rfl ?_) | (refine AO.no rfl rfl rfl ?_)
  first | (refine AO.opG rfl rfl rfl (fun hp => OpW.force 14 rfl (by first | exact hp | simp_all) (O.leq rfl rfl rfl (by first | exact bTrue (by omega) | exact bFalse (by omega) | assumption | rfl))) ?_) | (refine AO.op (O.leq rfl rfl rfl (by first | exact bTrue (by omega) | exact bFalse (by omega) | assumption | rfl)) rfl rfl rfl ?_) | (refine AO.no rfl rfl rfl ?_)
  first | (refine AO.op (O.pickAnd rfl rfl rfl rfl (fun h => by first | exact h | simp_all)) rfl rfl rfl ?_) | (refine AO.op (O.pickF rfl rfl rfl) rfl rfl rfl ?_) | (refine AO.op (O.pickT rfl rfl rfl) rfl rfl rfl ?_)
  refine AO.op (O.move rfl rfl) rfl rfl rfl ?_
  first | (refine AO.opG rfl rfl rfl (fun hp => O.fieldAddrR rfl rfl) ?_) | (refine AO.opG rfl rfl rfl (fun hp => O.fieldAddr rfl rfl) ?_) | (refine AO.op (O.fieldAddrR rfl rfl) rfl rfl rfl ?_) | (refine AO.op (O.fieldAddr rfl rfl) rfl rfl rfl ?_) | (refine AO.no rfl rfl rfl ?_)
  first | (refine AO.opG rfl rfl rfl (fun hp => OpW.force 18 rfl (by first | exact hp | simp_all) (O.loadR rfl rfl rfl)) ?_) | (refine AO.opG rfl rfl rfl (fun hp => OpW.force 18 rfl (by first | exact hp | simp_all) (O.load rfl rfl (by repeat (first | exact List.Mem.head _ | refine List.Mem.tail _ ?_)) rfl)) ?_) | (refine AO.op (O.loadR rfl rfl rfl) rfl rfl rfl ?_) | (refine AO.op (O.load rfl rfl (by repeat (first | exact List.Mem.head _ | refine List.Mem.tail _ ?_)) rfl) rfl rfl rfl ?_) | (refine AO.no rfl rfl rfl ?_)
  first | (refine AO.opG rfl rfl rfl (fun hp => OpW.force 19 rfl (by first | exact hp | simp_all) (O.lenR rfl rfl)) ?_) | (refine AO.opG rfl rfl rfl (fun hp => OpW.force 19 rfl (by first | exact hp | simp_all) (O.lenV rfl rfl)) ?_) | (refine AO.opG rfl rfl rfl (fun hp => OpW.force 19 rfl (by first | exact hp | simp_all) (O.lenRow rfl rfl (by repeat (first | exact List.Mem.head _ | refine List.Mem.tail _ ?_)))) ?_) | (refine AO.opG rfl rfl rfl (fun hp => OpW.force 19 rfl (by first | exact hp | simp_all) (O.lenS rfl rfl)) ?_) | (refine AO.op (O.lenR rfl rfl) rfl rfl rfl ?_) | (refine AO.op (O.lenV rfl rfl) rfl rfl rfl ?_) | (refine AO.op (O.lenRow rfl rfl (by repeat (first | exact List.Mem.head _ | refine List.Mem.tail _ ?_))) rfl rfl rfl ?_) | (refine AO.op (O.lenS rfl rfl) rfl rfl rfl ?_) | (refine AO.no rfl rfl rfl ?_)
  first | (refine AO.opG rfl rfl rfl (fun hp => OpW.force 20 rfl (by first | exact hp | simp_all) (O.leq rfl rfl rfl (by first | exact bTrue (by omega) | exact bFalse (by omega) | assumption | rfl))) ?_) | (refine AO.op (O.leq rfl rfl rfl (by first | exact bTrue (by omega) | exact bFalse (by omega) | assumption | rfl)) rfl rfl rfl ?_) | (refine AO.no rfl rfl rfl ?_)
  first | (refine AO.op (O.pickAnd rfl rfl rfl rfl (fun h => by first | exact h | simp_all)) rfl rfl rfl ?_) | (refine AO.op (O.pickF rfl rfl rfl) rfl rfl rfl ?_) | (refine AO.op (O.pickT rfl rfl rfl) rfl rfl rfl ?_)
  refine AO.op (O.move rfl rfl) rfl rfl rfl ?_
  first | (refine AO.opG rfl rfl rfl (fun hp => O.fieldAddrR rfl rfl) ?_) | (refine AO.opG rfl rfl rfl (fun hp => O.fieldAddr rfl rfl) ?_) | (refine AO.op (O.fieldAddrR rfl rfl) rfl rfl rfl ?_) | (refine AO.op (O.fieldAddr rfl rfl) rfl rfl rfl ?_) | (refine AO.no rfl rfl rfl ?_)
  first | (refine AO.opG rfl rfl rfl (fun hp => OpW.force 24 rfl (by first | exact hp | simp_all) (O.loadR rfl rfl rfl)) ?_) | (refine AO.opG rfl rfl rfl (fun hp => OpW.force 24 rfl (by first | exact hp | simp_all) (O.load rfl rfl (by repeat (first | exact List.Mem.head _ | refine List.Mem.tail _ ?_)) rfl)) ?_) | (refine AO.op (O.loadR rfl rfl rfl) rfl rfl rfl ?_) | (refine AO.op (O.load rfl rfl (by repeat (first | exact List.Mem.head _ | refine List.Mem.tail _ ?_)) rfl) rfl rfl rfl ?_) | (refine AO.no rfl rfl rfl ?_)
  first | (refine AO.opG rfl rfl rfl (fun hp => OpW.force 25 rfl (by first | exact hp | simp_all) (O.geq rfl rfl rfl (by first | exact bTrue (by omega) | exact bFalse (by omega) | assumption | rfl))) ?_) | (refine AO.op (O.geq rfl rfl rfl (by first | exact bTrue (by omega) | exact bFalse (by omega) | assumption | rfl)) rfl rfl rfl ?_) | (refine AO.no rfl rfl rfl ?_)
  first | (refine AO.op (O.pickAnd rfl rfl rfl rfl (fun h => by first | exact h | simp_all)) rfl rfl rfl ?_) | (refine AO.op (O.pickF rfl rfl rfl) rfl rfl rfl ?_) | (refine AO.op (O.pickT rfl rfl rfl) rfl rfl rfl ?_)
  refine AO.op (O.move rfl rfl) rfl rfl rfl ?_
  first | (refine AO.opG rfl rfl rfl (fun hp => O.fieldAddrR rfl rfl) ?_) | (refine AO.opG rfl rfl rfl (fun hp => O.fieldAddr rfl rfl) ?_) | (refine AO.op (O.fieldAddrR rfl rfl) rfl rfl rfl ?_) | (refine AO.op (O.fieldAddr rfl rfl) rfl rfl rfl ?_) | (refine AO.no rfl rfl rfl ?_)
  first | (refine AO.opG rfl rfl rfl (fun hp => OpW.force 29 rfl (by first | exact hp | simp_all) (O.loadR rfl rfl rfl)) ?_) | (refine AO.opG rfl rfl rfl (fun hp => OpW.force 29 rfl (by first | exact hp | simp_all) (O.load rfl rfl (by repeat (first | exact List.Mem.head _ | refine List.Mem.tail _ ?_)) rfl)) ?_) | (refine AO.op (O.loadR rfl rfl rfl) rfl rfl rfl ?_) | (refine AO.op (O.load rfl rfl (by repeat (first | exact List.Mem.head _ | refine List.Mem.tail _ ?_)) rfl) rfl rfl rfl ?_) | (refine AO.no rfl rfl rfl ?_)
  first | (refine AO.opG rfl rfl rfl (fun hp => OpW.force 30 rfl (by first | exact hp | simp_all) (O.lss rfl rfl rfl (by first | exact bTrue (by omega) | exact bFalse (by omega) | assumption | rfl))) ?_) | (refine AO.op (O.lss rfl rfl rfl (by first | exact bTrue (by omega) | exact bFalse (by omega) | assumption | rfl)) rfl rfl rfl ?_) | (refine AO.no rfl rfl rfl ?_)
  first | (refine AO.op (O.pickAnd rfl rfl rfl rfl (fun h => by first | exact h | simp_all)) rfl rfl rfl ?_) | (refine AO.op (O.pickF rfl rfl rfl) rfl rfl rfl ?_) | (refine AO.op (O.pickT rfl rfl rfl) rfl rfl rfl ?_)
  refine AO.op (O.move rfl rfl) rfl rfl rfl ?_
  first | (refine AO.opG rfl rfl rfl (fun hp => O.fieldAddrR rfl rfl) ?_) | (refine AO.opG rfl rfl rfl (fun hp => O.fieldAddr rfl rfl) ?_) | (refine AO.op (O.fieldAddrR rfl rfl) rfl rfl rfl ?_) | (refine AO.op (O.fieldAddr rfl rfl) rfl rfl rfl ?_) | (refine AO.no rfl rfl rfl ?_)
  first | (refine AO.opG rfl rfl rfl (fun hp => OpW.force 34 rfl (by first | exact hp | simp_all) (O.loadR rfl rfl rfl)) ?_) | (refine AO.opG rfl rfl rfl (fun hp => OpW.force 34 rfl (by first | exact hp | simp_all) (O.load rfl rfl (by repeat (first | exact List.Mem.head _ | refine List.Mem.tail _ ?_)) rfl)) ?_) | (refine AO.op (O.loadR rfl rfl rfl) rfl rfl rfl ?_) | (refine AO.op (O.load rfl rfl (by repeat (first | exact List.Mem.head _ | refine List.Mem.tail _ ?_)) rfl) rfl rfl rfl ?_) | (refine AO.no rfl rfl rfl ?_)
  first | (refine AO.opG rfl rfl rfl (fun hp => OpW.force 35 rfl (by first | exact hp | simp_all) (O.geq rfl rfl rfl (by first | exact bTrue (by omega) | exact bFalse (by omega) | assumption | rfl))) ?_) | (refine AO.op (O.geq rfl rfl rfl (by first | exact bTrue (by omega) | exact bFalse (by omega) | assumption | rfl)) rfl rfl rfl ?_) | (refine AO.no rfl rfl rfl ?_)
  first | (refine AO.op (O.pickAnd rfl rfl rfl rfl (fun h => by first | exact h | simp_all)) rfl rfl rfl ?_) | (refine AO.op (O.pickF rfl rfl rfl) rfl rfl rfl ?_) | (refine AO.op (O.pickT rfl rfl rfl) rfl rfl rfl ?_)
  refine AO.op (O.assign rfl rfl) rfl rfl rfl ?_
  refine AO.nil ?_
  refine AQ.thenN ?_
  refine AW.ret ?_
  refine AQ.ret1 rfl rfl ⟨_, List.nil_sublist _, .nil⟩ (⟨rfl, rfl⟩)
set_option maxHeartbeats 1000000 in
theorem meets_fn (p : Int) (tk ky : List UInt8) (s t : Int) (p' : Int) (tk' ky' : List UInt8) (s' t' : Int) : Sp Tryz.prog 43 [.agg (cellsW p tk ky s t), .agg (cellsW p' tk' ky' s' t')] [] (Is (.val (.bool (meetsB p tk ky p' tk' ky')))) := by
  refine Sp.enter Tryz.func43 rfl _ Tryz.ntmps43 rfl (fun w0 R0 => ?_)
  refine AW.seq ?_
  refine AW.region ?_
  refine AO.opB (O.box rfl rfl rfl rfl rfl) rfl rfl rfl ?_
  intro B
  refine AO.opB (O.box rfl rfl rfl rfl rfl) rfl rfl rfl ?_
  intro B
  refine AO.op (O.assign rfl rfl) rfl rfl rfl ?_
  refine AO.nil ?_
  refine AQ.thenN ?_
  refine AW.seq ?_
  refine AW.region ?_
  first | (refine AO.op (O.fieldAddrR rfl rfl) rfl rfl rfl ?_) | (refine AO.op (O.fieldAddr rfl rfl) rfl rfl rfl ?_)
  first | (refine AO.op (O.loadR rfl rfl rfl) rfl rfl rfl ?_) | (refine AO.op (O.load rfl rfl (by repeat (first | exact List.Mem.head _ | refine List.Mem.tail _ ?_)) rfl) rfl rfl rfl ?_)
  first | (refine AO.op (O.fieldAddrR rfl rfl) rfl rfl rfl ?_) | (refine AO.op (O.fieldAddr rfl rfl) rfl rfl rfl ?_)
  first | (refine AO.op (O.loadR rfl rfl rfl) rfl rfl rfl ?_) | (refine AO.op (O.load rfl rfl (by repeat (first | exact List.Mem.head _ | refine List.Mem.tail _ ?_)) rfl) rfl rfl rfl ?_)
  refine AO.op (O.eql rfl rfl rfl (by first | exact beq_iff_eq.2 (by omega) | exact beq_eq_false_iff_ne.2 (by omega) | assumption | rfl)) rfl rfl rfl ?_
  refine AO.op (O.move rfl rfl) rfl rfl rfl ?_
  first | (refine AO.opG rfl rfl rfl (fun hp => O.fieldAddrR rfl rfl) ?_) | (refine AO.opG rfl rfl rfl (fun hp => O.fieldAddr rfl rfl) ?_) | (refine AO.op (O.fieldAddrR rfl rfl) rfl rfl rfl ?_) | (refine AO.op (O.fieldAddr rfl rfl) rfl rfl rfl ?_) | (refine AO.no rfl rfl rfl ?_)
  first | (refine AO.opG rfl rfl rfl (fun hp => OpW.force 11 rfl (by first | exact hp | simp_all) (O.loadR rfl rfl rfl)) ?_) | (refine AO.opG rfl rfl rfl (fun hp => OpW.force 11 rfl (by first | exact hp | simp_all) (O.load rfl rfl (by repeat (first | exact List.Mem.head _ | refine List.Mem.tail _ ?_)) rfl)) ?_) | (refine AO.op (O.loadR rfl rfl rfl) rfl rfl rfl ?_) | (refine AO.op (O.load rfl rfl (by repeat (first | exact List.Mem.head _ | refine List.Mem.tail _ ?_)) rfl) rfl rfl rfl ?_) | (refine AO.no rfl rfl rfl ?_)
  first | (refine AO.opG rfl rfl rfl (fun hp => O.fieldAddrR rfl rfl) ?_) | (refine AO.opG rfl rfl rfl (fun hp => O.fieldAddr rfl rfl) ?_) | (refine AO.op (O.fieldAddrR rfl rfl) rfl rfl rfl ?_) | (refine AO.op (O.fieldAddr rfl rfl) rfl rfl rfl ?_) | (refine AO.no rfl rfl rfl ?_)
  first | (refine AO.opG rfl rfl rfl (fun hp => OpW.force 13 rfl (by first | exact hp | simp_all) (O.loadR rfl rfl rfl)) ?_) | (refine AO.opG rfl rfl rfl (fun hp => OpW.force 13 rfl (by first | exact hp | simp_all) (O.load rfl rfl (by repeat (first | exact List.Mem.head _ | refine List.Mem.tail _ ?_)) rfl)) ?_) | (refine AO.op (O.loadR rfl rfl rfl) rfl rfl rfl ?_) | (refine AO.op (O.load rfl rfl (by repeat (first | exact List.Mem.head _ | refine List.Mem.tail _ ?_)) rfl) rfl rfl rfl ?_) | (refine AO.no rfl rfl rfl ?_)
  first | (refine AO.opG rfl rfl rfl (fun hp => OpW.force 12 rfl (by first | exact hp | simp_all) (OpW.force 14 rfl (by first | exact hp | simp_all) (O.call rfl Tryz.func46 rfl rfl rfl (equal_fn _ _)))) ?_) | (refine AO.opG rfl rfl rfl (fun hp => OpW.force 12 rfl (by first | exact hp | simp_all) (OpW.force 14 rfl (by first | exact hp | simp_all) (O.callC rfl Tryz.func46 rfl rfl rfl (equal_fn _ _) (by (repeat (first | exact CoeL.nil | refine CoeL.cons Coe.rfl ?_ | refine CoeL.cons Coe.nil ?_ | refine CoeL.cons Coe.unfull ?_ | refine CoeL.cons (Coe.agg ?_) ?_ | refine CoeL.cons (Coe.tup ?_) ?_ | refine CoeL.cons (Coe.ro ?_) ?_)); first | done | fail)))) ?_) | (refine AO.opG rfl rfl rfl (fun hp => OpW.force 12 rfl (by first | exact hp | simp_all) (OpW.force 14 rfl (by first | exact hp | simp_all) (O.callL rfl Tryz.func46 rfl rfl rfl (by repeat (first | exact List.Mem.head _ | refine List.Mem.tail _ ?_)) (equal_fn _ _) (by (repeat (first | exact LendL.nil | refine LendL.same ?_ | refine LendL.lend ?_)); first | done | fail)))) ?_) | (refine AO.op (O.call rfl Tryz.func46 rfl rfl rfl (equal_fn _ _)) rfl rfl rfl ?_) | (refine AO.op (O.callC rfl Tryz.func46 rfl rfl rfl (equal_fn _ _) (by (repeat (first | exact CoeL.nil | refine CoeL.cons Coe.rfl ?_ | refine CoeL.cons Coe.nil ?_ | refine CoeL.cons Coe.unfull ?_ | refine CoeL.cons (Coe.agg ?_) ?_ | refine CoeL.cons (Coe.tup ?_) ?_ | refine CoeL.cons (Coe.ro ?_) ?_)); first | done | fail)) rfl rfl rfl ?_) | (refine AO.op (O.callL rfl Tryz.func46 rfl rfl rfl (by repeat (first | exact List.Mem.head _ | refine List.Mem.tail _ ?_)) (equal_fn _ _) (by (repeat (first | exact LendL.nil | refine LendL.same ?_ | refine LendL.lend ?_)); first | done | fail)) rfl rfl rfl ?_) | (refine AO.no rfl rfl rfl ?_)
  first | (refine AO.opG rfl rfl rfl (fun hp => OpW.force 15 rfl (by first | exact hp | simp_all) (O.move rfl rfl)) ?_) | (refine AO.op (O.move rfl rfl) rfl rfl rfl ?_) | (refine AO.no rfl rfl rfl ?_)
  first | (refine AO.opG rfl rfl rfl (fun hp => O.fieldAddrR rfl rfl) ?_) | (refine AO.opG rfl rfl rfl (fun hp => O.fieldAddr rfl rfl) ?_) | (refine AO.op (O.fieldAddrR rfl rfl) rfl rfl rfl ?_) | (refine AO.op (O.fieldAddr rfl rfl) rfl rfl rfl ?_) | (refine AO.no rfl rfl rfl ?_)
  first | (refine AO.opG rfl rfl rfl (fun hp => OpW.force 17 rfl (by first | exact hp | simp_all) (O.loadR rfl rfl rfl)) ?_) | (refine AO.opG rfl rfl rfl (fun hp => OpW.force 17 rfl (by first | exact hp | simp_all) (O.load rfl rfl (by repeat (first | exact List.Mem.head _ | refine List.Mem.tail _ ?_)) rfl)) ?_) | (refine AO.op (O.loadR rfl rfl rfl) rfl rfl rfl ?_) | (refine AO.op (O.load rfl rfl (by repeat (first | exact List.Mem.head _ | refine List.Mem.tail _ ?_)) rfl) rfl rfl rfl ?_) | (refine AO.no rfl rfl rfl ?_)
  first | (refine AO.opG rfl rfl rfl (fun hp => O.fieldAddrR rfl rfl) ?_) | (refine AO.opG rfl rfl rfl (fun hp => O.fieldAddr rfl rfl) ?_) | (refine AO.op (O.fieldAddrR rfl rfl) rfl rfl rfl ?_) | (refine AO.op (O.fieldAddr rfl rfl) rfl rfl rfl ?_) | (refine AO.no rfl rfl rfl ?_)
  first | (refine AO.opG rfl rfl rfl (fun hp => OpW.force 19 rfl (by first | exact hp | simp_all) (O.loadR rfl rfl rfl)) ?_) | (refine AO.opG rfl rfl rfl (fun hp => OpW.force 19 rfl (by first | exact hp | simp_all) (O.load rfl rfl (by repeat (first | exact List.Mem.head _ | refine List.Mem.tail _ ?_)) rfl)) ?_) | (refine AO.op (O.loadR rfl rfl rfl) rfl rfl rfl ?_) | (refine AO.op (O.load rfl rfl (by repeat (first | exact List.Mem.head _ | refine List.Mem.tail _ ?_)) rfl) rfl rfl rfl ?_) | (refine AO.no rfl rfl rfl ?_)
  first | (refine AO.opG rfl rfl rfl (fun hp => OpW.force 18 rfl (by first | exact hp | simp_all) (OpW.force 20 rfl (by first | exact hp | simp_all) (O.call rfl Tryz.func46 rfl rfl rfl (equal_fn _ _)))) ?_) | (refine AO.opG rfl rfl rfl (fun hp => OpW.force 18 rfl (by first | exact hp | simp_all) (OpW.force 20 rfl (by first | exact hp | simp_all) (O.callC rfl Tryz.func46 rfl rfl rfl (equal_fn _ _) (by (repeat (first | exact CoeL.nil | refine CoeL.cons Coe.rfl ?_ | refine CoeL.cons Coe.nil ?_ | refine CoeL.cons Coe.unfull ?_ | refine CoeL.cons (Coe.agg ?_) ?_ | refine CoeL.cons (Coe.tup ?_) ?_ | refine CoeL.cons (Coe.ro ?_) ?_)); first | done | fail)))) ?_) | (refine AO.opG rfl rfl rfl (fun hp => OpW.force 18 rfl (by first | exact hp | simp_all) (OpW.force 20 rfl (by first | exact hp | simp_all) (O.callL rfl Tryz.func46 rfl rfl rfl (by repeat (first | exact List.Mem.head _ | refine List.Mem.tail _ ?_)) (equal_fn _ _) (by (repeat (first | exact LendL.nil | refine LendL.same ?_ | refine LendL.lend ?_)); first | done | fail)))) ?_) | (refine AO.op (O.call rfl Tryz.func46 rfl rfl rfl (equal_fn _ _)) rfl rfl rfl ?_) | (refine AO.op (O.callC rfl Tryz.func46 rfl rfl rfl (equal_fn _ _) (by (repeat (first | exact CoeL.nil | refine CoeL.cons Coe.rfl ?_ | refine CoeL.cons Coe.nil ?_ | refine CoeL.cons Coe.unfull ?_ | refine CoeL.cons (Coe.agg ?_) ?_ | refine CoeL.cons (Coe.tup ?_) ?_ | refine CoeL.cons (Coe.ro ?_) ?_)); first | done | fail)) rfl rfl rfl ?_) | (refine AO.op (O.callL rfl Tryz.func46 rfl rfl rfl (by repeat (first | exact List.Mem.head _ | refine List.Mem.tail _ ?_)) (equal_fn _ _) (by (repeat (first | exact LendL.nil | refine LendL.same ?_ | refine LendL.lend ?_)); first | done | fail)) rfl rfl rfl ?_) | (refine AO.no rfl rfl rfl ?_)
  first | (refine AO.opG rfl rfl rfl (fun hp => OpW.force 16 rfl (by first | exact hp | simp_all) (O.pickOr rfl rfl rfl rfl (fun h => by first | exact congrArg (fun b => !b) h | simp_all))) ?_) | (refine AO.opG rfl rfl rfl (fun hp => OpW.force 16 rfl (by first | exact hp | simp_all) (O.pickT rfl rfl rfl)) ?_) | (refine AO.opG rfl rfl rfl (fun hp => OpW.force 16 rfl (by first | exact hp | simp_all) (O.pickF rfl rfl rfl)) ?_) | (refine AO.op (O.pickOr rfl rfl rfl rfl (fun h => by first | exact congrArg (fun b => !b) h | simp_all)) rfl rfl rfl ?_) | (refine AO.op (O.pickT rfl rfl rfl) rfl rfl rfl ?_) | (refine AO.op (O.pickF rfl rfl rfl) rfl rfl rfl ?_) | (refine AO.no rfl rfl rfl ?_)
  first | (refine AO.op (O.pickAnd rfl rfl rfl rfl (fun h => by first | exact h | simp_all)) rfl rfl rfl ?_) | (refine AO.op (O.pickF rfl rfl rfl) rfl rfl rfl ?_) | (refine AO.op (O.pickT rfl rfl rfl) rfl rfl rfl ?_)
  refine AO.op (O.assign rfl rfl) rfl rfl rfl ?_
  refine AO.nil ?_
  refine AQ.thenN ?_
  refine AW.ret ?_
  refine AQ.ret1 rfl rfl ⟨_, List.nil_sublist _, .nil⟩ (⟨rfl, rfl⟩)
end Go.Proofs.YtoonnnifelnaiaaGreatDoor.Ob

namespace Go.Proofs.YtoonnnifelnaiaaGreatDoor.Ob
open Go.RowKit L A
set_option linter.unusedVariables false
set_option maxRecDepth 20000
set_option linter.unusedSimpArgs false
attribute [local irreducible] AW AQ AO

theorem clone_fn (l : List UInt8) (hl : l.length ≤ 4294967296) : Sp Tryz.prog 49 [roB l] [] (Is (roB l)) := by
  refine Sp.enter Tryz.func49 rfl _ Tryz.ntmps49 rfl (fun w0 R0 => ?_)
  refine AW.seq ?_
  refine AW.region ?_
  refine AO.op (O.assign rfl rfl) rfl rfl rfl ?_
  refine AO.nil ?_
  refine AQ.thenN ?_
  refine AW.seq ?_
  refine AW.seq ?_
  refine AW.region ?_
  refine AO.op (O.move rfl rfl) rfl rfl rfl ?_
  refine AO.opN (O.eqlNil rfl rfl rfl) rfl rfl rfl ?_
  rintro _ _ ⟨c, rfl, rfl, hnil⟩
  simp only [List.cons_append, List.nil_append]
  refine AO.nil ?_
  refine AQ.thenN ?_
  refine AW.split rfl (fun h => ?_) (fun h => ?_)
  · skip
    obtain rfl : l = [] := List.eq_nil_of_length_eq_zero (hnil (by simp [h]))
    refine AW.seq ?_
    refine AW.region ?_
    refine AO.op (O.assign rfl rfl) rfl rfl rfl ?_
    refine AO.nil ?_
    refine AQ.thenN ?_
    refine AW.ret ?_
    refine AQ.thenR ?_
    refine AQ.g ?_
    refine G.nilRo 2 rfl ?_
    refine AQ.u ?_
    refine AQ.ret1 rfl rfl ⟨_, List.nil_sublist _, .nil⟩ (⟨rfl, rfl⟩)
  · skip
    refine AW.skip ?_
    refine AQ.thenN ?_
    refine AW.seq ?_
    refine AW.region ?_
    refine AO.opRow (O.buildSlice0 rfl) rfl rfl rfl ?_
    intro V hV
    refine AO.op (O.move rfl rfl) rfl rfl rfl ?_
    (refine AO.append' (i := 0) rfl rfl rfl rfl (by rfl) (by rfl) rfl rfl rfl (by exact SrcA.ro TyD.ax (by (simp; done)) (Nat.le_of_ble_eq_true rfl)) (by (simp [AV.cells, AV.one, *]; done)) (by (unfold maxLen; omega)) (by omega) (by (dsimp only [List.set, List.cons_append, List.nil_append, List.take, List.drop]; done)) (fun _ => by (dsimp only [List.set]; done)) ?_)
    intro V hV
    refine AO.op (O.assign rfl rfl) rfl rfl rfl ?_
    refine AO.nil ?_
    refine AQ.thenN ?_
    refine AW.ret ?_
    refine AQ.g ?_
    refine G.freezeRow 0 rfl [2] (by repeat (first | exact frNil | refine frCons rfl ?_)) ?_
    refine AQ.u ?_
    dsimp only [List.map, List.eraseIdx, List.cons_append, List.nil_append]
    refine AQ.ret1 rfl rfl ⟨_, List.nil_sublist _, .nil⟩ (⟨by simp [roB], rfl⟩)

theorem owned_fn (p : Int) (tk ky : List UInt8) (s t : Int) (h1 : tk.length ≤ 4294967296) (h2 : ky.length ≤ 4294967296) : Sp Tryz.prog 44 [.agg (cellsW p tk ky s t)] [] (Is (.agg (cellsW p tk ky s t))) := by
  refine Sp.enter Tryz.func44 rfl _ Tryz.ntmps44 rfl (fun w0 R0 => ?_)
  refine AW.seq ?_
  refine AW.region ?_
  refine AO.opB (O.box rfl rfl rfl rfl rfl) rfl rfl rfl ?_
  intro B
  refine AO.opB (O.alloc rfl (by (dsimp only [zerosA, List.replicate, List.append, List.flatten, AV.cells, Value.cells, List.toList_toArray, List.map]; done)) (by rfl)) rfl rfl rfl ?_
  intro B
  refine AO.nil ?_
  refine AQ.thenN ?_
  refine AW.seq ?_
  refine AW.regionD 7 (by kernel_rfl) (by kernel_rfl) ?_
  simp only [List.take_succ_cons, List.take_zero, List.drop_succ_cons, List.drop_zero]
  refine FA.op (O.fieldAddr rfl rfl) rfl rfl rfl rfl ?_
  refine FA.op (O.load rfl rfl (by repeat (first | exact List.Mem.head _ | refine List.Mem.tail _ ?_)) (by rfl)) rfl rfl rfl rfl ?_
  refine FA.op (O.call rfl Tryz.func49 rfl rfl rfl (clone_fn _ (by assumption))) rfl rfl rfl rfl ?_
  refine FA.op (O.fieldAddr rfl rfl) rfl rfl rfl rfl ?_
  refine FA.op (O.load rfl rfl (by repeat (first | exact List.Mem.head _ | refine List.Mem.tail _ ?_)) (by rfl)) rfl rfl rfl rfl ?_
  refine FA.op (O.call rfl Tryz.func49 rfl rfl rfl (clone_fn _ (by assumption))) rfl rfl rfl rfl ?_
  refine FA.op (O.fieldAddr rfl rfl) rfl rfl rfl rfl ?_
  refine FA.nil ?_
  simp only [chosen, List.nil_append, List.cons_append, List.append_nil]
  (refine AO.store (i := 1) rfl rfl rfl rfl rfl rfl (by rfl) (by rfl) (by rfl) (by (dsimp only [List.set, List.cons_append, List.nil_append, List.take, List.drop]; done)) (by (dsimp only [List.set, List.cons_append, List.nil_append, List.take, List.drop]; done)) ?_)
  refine AO.op (O.fieldAddr rfl rfl) rfl rfl rfl ?_
  (refine AO.store (i := 1) rfl rfl rfl rfl rfl rfl (by rfl) (by rfl) (by rfl) (by (dsimp only [List.set, List.cons_append, List.nil_append, List.take, List.drop]; done)) (by (dsimp only [List.set, List.cons_append, List.nil_append, List.take, List.drop]; done)) ?_)
  refine AO.nil ?_
  refine AQ.thenN ?_
  refine AW.seq ?_
  refine AW.region ?_
  (refine AO.op (O.loadK rfl rfl (by repeat (first | exact List.Mem.head _ | refine List.Mem.tail _ ?_)) (by (dsimp only [List.set, List.cons_append, List.nil_append, List.take, List.drop]; done)) (by rfl)) rfl rfl rfl ?_)
  (refine AO.store (i := 0) rfl rfl rfl rfl rfl rfl (by rfl) (by rfl) (by rfl) (by (dsimp only [List.set, List.cons_append, List.nil_append, List.take, List.drop]; done)) (by (dsimp only [List.set, List.cons_append, List.nil_append, List.take, List.drop]; done)) ?_)
  refine AO.nil ?_
  refine AQ.thenN ?_
  refine AW.ret ?_
  refine AQ.retCell rfl rfl (by repeat (exact List.Mem.head _)) (by rfl) rfl ⟨_, List.nil_sublist _, .nil⟩ (⟨rfl, rfl⟩)

def Watch.cells (w : Watch) : List AV := cellsW w.peer w.tok w.key w.seq w.since
def watchesA (ws : List Watch) : List AV := ws.flatMap Watch.cells
def roW (ws : List Watch) : AV := .ro false ws.length (watchesA ws)
def Watch.none : Watch := ⟨0, [], [], 0, 0⟩
def wat (ws : List Watch) (i : Nat) : Watch := ws.getD i Watch.none
@[simp] theorem Watch.cells_length (w : Watch) : w.cells.length = 5 := rfl
@[simp] theorem watchesA_length (ws : List Watch) : (watchesA ws).length = ws.length * 5 := by
  induction ws with
  | nil => rfl
  | cons w ws ih => simp [watchesA, List.flatMap_cons] at ih ⊢; rw [ih]; omega
theorem watchesA_cons (w : Watch) (ws : List Watch) : watchesA (w :: ws) = w.cells ++ watchesA ws := by simp [watchesA, List.flatMap_cons]
theorem watchesA_app (a b : List Watch) : watchesA (a ++ b) = watchesA a ++ watchesA b := by simp [watchesA, List.flatMap_append]
theorem watchesA_take (ws : List Watch) (k : Nat) : (watchesA ws).take (k * 5) = watchesA (ws.take k) := by
  induction ws generalizing k with
  | nil => simp [watchesA]
  | cons w ws ih =>
    cases k with
    | zero => simp [watchesA]
    | succ k =>
      rw [watchesA_cons, List.take_succ_cons, watchesA_cons, ← ih, List.take_append, show (k + 1) * 5 = 5 + k * 5 by omega]
      rw [List.take_of_length_le (by simp)]
      simp
theorem watchesA_drop (ws : List Watch) (k : Nat) : (watchesA ws).drop (k * 5) = watchesA (ws.drop k) := by
  induction ws generalizing k with
  | nil => simp [watchesA]
  | cons w ws ih =>
    cases k with
    | zero => simp
    | succ k =>
      rw [watchesA_cons, List.drop_succ_cons, ← ih, List.drop_append, show (k + 1) * 5 = 5 + k * 5 by omega]
      simp
theorem watchesA_at (ws : List Watch) (k : Nat) (h : k < ws.length) : ((watchesA ws).drop (k * 5)).take 5 = (wat ws k).cells := by
  rw [watchesA_drop, List.drop_eq_getElem_cons h, watchesA_cons]
  have : wat ws k = ws[k] := by simp [wat, h]
  rw [this, List.take_append]
  simp
  rfl
theorem wat_take {ws : List Watch} {k j : Nat} (h : j < k) (hk : k ≤ ws.length) : wat (ws.take k) j = wat ws j := by
  simp [wat, List.getElem?_take, h]
theorem getW {ws : List Watch} {k : Nat} (h : k < ws.length) : ((watchesA ws).drop (Int.toNat (k : Int) * 5)).take 5 = [.val (.int .i64 (wat ws k).peer), roB (wat ws k).tok, roB (wat ws k).key, .val (.int .i64 (wat ws k).seq), .val (.int .i64 (wat ws k).since)] := watchesA_at ws k h
theorem getWT {ws : List Watch} {k j : Nat} (h : j < k) (hk : k ≤ ws.length) : ((watchesA (ws.take k)).drop (Int.toNat (j : Int) * 5)).take 5 = [.val (.int .i64 (wat ws j).peer), roB (wat ws j).tok, roB (wat ws j).key, .val (.int .i64 (wat ws j).seq), .val (.int .i64 (wat ws j).since)] := by
  have := getW (ws := ws.take k) (k := j) (by simp; omega)
  rwa [wat_take h hk] at this
theorem getWK {ws : List Watch} {k : Nat} : (watchesA ws).take (k * 5) = watchesA (ws.take k) := watchesA_take ws k

end Go.Proofs.YtoonnnifelnaiaaGreatDoor.Ob

namespace Go.Proofs.YtoonnnifelnaiaaGreatDoor.Ob
open Go.RowKit L A
set_option linter.unusedVariables false
set_option maxRecDepth 20000
set_option linter.unusedSimpArgs false
attribute [local irreducible] AW AQ AO

def soundW (w : Watch) : Bool := soundB w.peer w.tok w.key w.seq w.since
def meetsW (v w : Watch) : Bool := meetsB v.peer v.tok v.key w.peer w.tok w.key
def okAt (ws : List Watch) (i : Nat) : Bool := soundW (wat ws i) && (List.range i).all fun j => !meetsW (wat ws j) (wat ws i)
def okTo (ws : List Watch) (k : Nat) : Bool := (List.range k).all (okAt ws)
def validW (ws : List Watch) : Bool := decide (ws.length ≤ 16) && okTo ws ws.length

theorem okTo_succ (ws : List Watch) (k : Nat) : okTo ws (k + 1) = (okTo ws k && okAt ws k) := by simp [okTo, List.range_succ]
theorem valid_no {ws : List Watch} {k : Nat} (hk : k < ws.length) (h : okAt ws k = false) : validW ws = false := by
  have : okTo ws ws.length = false := by
    unfold okTo
    rw [List.all_eq_false]
    exact ⟨k, List.mem_range.2 hk, by simp [h]⟩
  simp [validW, this]
theorem okAt_no1 {ws : List Watch} {k : Nat} (h : soundW (wat ws k) = false) : okAt ws k = false := by simp [okAt, h]
theorem okAt_no2 {ws : List Watch} {k j : Nat} (hj : j < k) (h : meetsW (wat ws j) (wat ws k) = true) : okAt ws k = false := by
  have : ((List.range k).all fun j => !meetsW (wat ws j) (wat ws k)) = false := by
    rw [List.all_eq_false]
    exact ⟨j, List.mem_range.2 hj, by simp [h]⟩
  simp [okAt, this]
theorem okAt_yes {ws : List Watch} {k : Nat} (h : soundW (wat ws k) = true) (h2 : ∀ j, j < k → meetsW (wat ws j) (wat ws k) = false) : okAt ws k = true := by
  simp only [okAt, h, Bool.true_and, List.all_eq_true, List.mem_range]
  intro j hj; simp [h2 j hj]

set_option maxHeartbeats 1000000 in
theorem valid_fn (ws : List Watch) : Sp Tryz.prog 39 [roW ws] [] (Is (.val (.bool (validW ws)))) := by
  refine Sp.enter Tryz.func39 rfl _ Tryz.ntmps39 rfl (fun w0 R0 => ?_)
  refine AW.seq ?_
  refine AW.region ?_
  refine AO.op (O.assign rfl rfl) rfl rfl rfl ?_
  refine AO.nil ?_
  refine AQ.thenN ?_
  refine AW.seq ?_
  refine AW.seq ?_
  refine AW.region ?_
  refine AO.op (O.move rfl rfl) rfl rfl rfl ?_
  refine AO.op (O.lenR rfl rfl) rfl rfl rfl ?_
  refine AO.op (O.gtr rfl rfl rfl (by rfl)) rfl rfl rfl ?_
  refine AO.nil ?_
  refine AQ.thenN ?_
  refine AW.split rfl (fun h => ?_) (fun h => ?_)
  · skip
    refine AW.seq ?_
    refine AW.region ?_
    refine AO.op (O.assign rfl rfl) rfl rfl rfl ?_
    refine AO.nil ?_
    refine AQ.thenN ?_
    refine AW.ret ?_
    refine AQ.thenR ?_
    refine AQ.ret1 rfl rfl ⟨_, List.nil_sublist _, .nil⟩ (⟨by simp at h; simp [ofConst, validW, show ¬ ws.length ≤ 16 by omega], rfl⟩)
  · skip
    have hlen : ws.length ≤ 16 := by simp at h; omega
    refine AW.skip ?_
    refine AQ.thenN ?_
    refine AW.seq ?_
    refine AW.seq ?_
    refine AW.region ?_
    refine AO.op (O.move rfl rfl) rfl rfl rfl ?_
    refine AO.op (O.lenR rfl rfl) rfl rfl rfl ?_
    refine AO.op (O.move rfl rfl) rfl rfl rfl ?_
    refine AO.nil ?_
    refine AQ.thenN ?_
    refine AW.block ?_
    refine AW.loop (fun n E H => ∃ k : Nat, k ≤ ws.length ∧ n = ws.length - k ∧ okTo ws k = true ∧ E = [(0, roW ws), (10, roW ws), (11, .val (.int .i64 (ws.length : Int))), (12, .val (.int .i64 (k : Int)))] ∧ H = []) (ws.length) (⟨0, by omega, rfl, rfl, rfl, rfl⟩) (by repeat (first | exact envNil | refine envCons rfl ?_)) ⟨_, by repeat (exact List.Sublist.slnil), List.Perm.refl _⟩ ?_
    rintro n E H ⟨k, hk, rfl, hok, rfl, rfl⟩
    refine AW.seq ?_
    refine AW.region ?_
    refine AO.op (O.lss rfl rfl rfl (by rfl)) rfl rfl rfl ?_
    refine AO.nil ?_
    refine AQ.thenN ?_
    refine AW.seq ?_
    refine AW.split rfl (fun hlt => ?_) (fun hlt => ?_)
    · skip
      have hlt : k < ws.length := by simpa using hlt
      refine AW.skip ?_
      refine AQ.thenN ?_
      refine AW.seq ?_
      refine AW.block ?_
      refine AW.seq ?_
      refine AW.region ?_
      refine AO.op (O.move rfl rfl) rfl rfl rfl ?_
      refine AO.op (O.idxR rfl rfl rfl ⟨(by omega), (by omega)⟩) rfl rfl rfl ?_
      refine AO.op (O.loadRK rfl rfl (by exact getW (by assumption)) (by rfl)) rfl rfl rfl ?_
      refine AO.opB (O.alloc rfl (by (dsimp only [zerosA, List.replicate, List.append, List.flatten, AV.cells, Value.cells, List.toList_toArray, List.map]; done)) (by rfl)) rfl rfl rfl ?_
      intro B
      refine AO.op (O.assign rfl rfl) rfl rfl rfl ?_
      (refine AO.store (i := 0) rfl rfl rfl rfl rfl rfl (by rfl) (by rfl) (by rfl) (by (dsimp only [List.set, List.cons_append, List.nil_append, List.take, List.drop]; done)) (by (dsimp only [List.set, List.cons_append, List.nil_append, List.take, List.drop]; done)) ?_)
      refine AO.nil ?_
      refine AQ.thenN ?_
      refine AW.seq ?_
      refine AW.seq ?_
      refine AW.region ?_
      (refine AO.op (O.loadK rfl rfl (by repeat (exact List.Mem.head _)) (by (dsimp only [List.set, List.cons_append, List.nil_append, List.take, List.drop]; done)) (by rfl)) rfl rfl rfl ?_)
      refine AO.op (O.call rfl Tryz.func40 rfl rfl rfl (sound_fn _ _ _ _ _)) rfl rfl rfl ?_
      refine AO.op (O.not rfl rfl (by rfl)) rfl rfl rfl ?_
      refine AO.nil ?_
      refine AQ.thenN ?_
      refine AW.split rfl (fun hs => ?_) (fun hs => ?_)
      · skip
        have hs : soundW (wat ws k) = false := by simpa [soundW] using hs
        refine AW.seq ?_
        refine AW.region ?_
        refine AO.op (O.assign rfl rfl) rfl rfl rfl ?_
        refine AO.nil ?_
        refine AQ.thenN ?_
        refine AW.ret ?_
        refine AQ.thenR ?_
        refine AQ.blockR ?_
        refine AQ.thenR ?_
        refine AQ.loopR ?_
        refine AQ.blockR ?_
        refine AQ.thenR ?_
        refine AQ.ret1 rfl rfl ⟨_, List.nil_sublist _, .nil⟩ (⟨by rw [valid_no hlt (okAt_no1 hs)]; rfl, rfl⟩)
      · skip
        have hs : soundW (wat ws k) = true := by simpa [soundW] using hs
        refine AW.skip ?_
        refine AQ.thenN ?_
        refine AW.seq ?_
        refine AW.region ?_
        refine AO.op (O.move rfl rfl) rfl rfl rfl ?_
        refine AO.op (O.move rfl rfl) rfl rfl rfl ?_
        refine AO.op (O.sliceTo rfl rfl rfl (by rfl) (by omega) (by exact getWK)) rfl rfl rfl ?_
        refine AO.op (O.lenR rfl rfl) rfl rfl rfl ?_
        refine AO.op (O.move rfl rfl) rfl rfl rfl ?_
        refine AO.nil ?_
        refine AQ.thenN ?_
        refine AW.block ?_
        refine AW.loop (fun n E H => ∃ j : Nat, j ≤ k ∧ n = k - j ∧ (∀ i, i < j → meetsW (wat ws i) (wat ws k) = false) ∧ E = [(0, roW ws), (4, .val (.pointer (some ⟨B, 0, none⟩))), (10, roW ws), (11, .val (.int .i64 (ws.length : Int))), (12, .val (.int .i64 (k : Int))), (22, .ro false k (watchesA (ws.take k))), (23, .val (.int .i64 (k : Int))), (24, .val (.int .i64 (j : Int)))] ∧ H = [.blk B 34 5 (wat ws k).cells]) (k) (⟨0, by omega, rfl, fun i hi => by omega, rfl, rfl⟩) (by repeat (first | exact envNil | refine envCons rfl ?_)) ⟨_, by repeat (first | exact List.Sublist.slnil | refine List.Sublist.cons_cons _ ?_), List.Perm.refl _⟩ ?_
        rintro n E H ⟨j, hj, rfl, hno, rfl, rfl⟩
        refine AW.seq ?_
        refine AW.region ?_
        refine AO.op (O.lss rfl rfl rfl (by rfl)) rfl rfl rfl ?_
        refine AO.nil ?_
        refine AQ.thenN ?_
        refine AW.seq ?_
        refine AW.split rfl (fun hjk => ?_) (fun hjk => ?_)
        · skip
          have hjk : j < k := by simpa using hjk
          refine AW.skip ?_
          refine AQ.thenN ?_
          refine AW.seq ?_
          refine AW.block ?_
          refine AW.seq ?_
          refine AW.region ?_
          refine AO.op (O.idxR rfl rfl rfl ⟨(by omega), (by omega)⟩) rfl rfl rfl ?_
          refine AO.op (O.loadRK rfl rfl (by exact getWT (by assumption) (by omega)) (by rfl)) rfl rfl rfl ?_
          refine AO.opB (O.alloc rfl (by (dsimp only [zerosA, List.replicate, List.append, List.flatten, AV.cells, Value.cells, List.toList_toArray, List.map]; done)) (by rfl)) rfl rfl rfl ?_
          intro B
          (refine AO.store (i := 0) rfl rfl rfl rfl rfl rfl (by rfl) (by rfl) (by rfl) (by (dsimp only [List.set, List.cons_append, List.nil_append, List.take, List.drop]; done)) (by (dsimp only [List.set, List.cons_append, List.nil_append, List.take, List.drop]; done)) ?_)
          refine AO.nil ?_
          refine AQ.thenN ?_
          refine AW.seq ?_
          refine AW.region ?_
          (refine AO.op (O.loadK rfl rfl (by repeat (exact List.Mem.head _)) (by (dsimp only [List.set, List.cons_append, List.nil_append, List.take, List.drop]; done)) (by rfl)) rfl rfl rfl ?_)
          (refine AO.op (O.loadK rfl rfl (by repeat (first | exact List.Mem.head _ | refine List.Mem.tail _ ?_)) (by (dsimp only [List.set, List.cons_append, List.nil_append, List.take, List.drop]; done)) (by rfl)) rfl rfl rfl ?_)
          refine AO.op (O.call rfl Tryz.func43 rfl rfl rfl (meets_fn _ _ _ _ _ _ _ _ _ _)) rfl rfl rfl ?_
          refine AO.nil ?_
          refine AQ.thenN ?_
          refine AW.split rfl (fun hm => ?_) (fun hm => ?_)
          · skip
            have hm : meetsW (wat ws j) (wat ws k) = true := hm
            refine AW.seq ?_
            refine AW.region ?_
            refine AO.op (O.assign rfl rfl) rfl rfl rfl ?_
            refine AO.nil ?_
            refine AQ.thenN ?_
            refine AW.ret ?_
            refine AQ.blockR ?_
            refine AQ.thenR ?_
            refine AQ.loopR ?_
            refine AQ.blockR ?_
            refine AQ.blockR ?_
            refine AQ.thenR ?_
            refine AQ.loopR ?_
            refine AQ.blockR ?_
            refine AQ.thenR ?_
            refine AQ.ret1 rfl rfl ⟨_, List.nil_sublist _, .nil⟩ (⟨by rw [valid_no hlt (okAt_no2 hjk hm)]; rfl, rfl⟩)
          · skip
            have hm : meetsW (wat ws j) (wat ws k) = false := hm
            refine AW.skip ?_
            refine AQ.blockN ?_
            refine AQ.thenN ?_
            refine AW.region ?_
            refine AO.op (O.add rfl rfl rfl (by exact wI64 (by omega))) rfl rfl rfl ?_
            refine AO.op (O.move rfl rfl) rfl rfl rfl ?_
            refine AO.nil ?_
            refine AQ.loopN _ _ _ (by omega) (⟨j + 1, by omega, rfl, allLt hno hm, rfl, rfl⟩) (by repeat (first | exact envNil | refine envCons rfl ?_)) ⟨_, by repeat (first | exact List.Sublist.slnil | refine List.Sublist.cons_cons _ ?_ | refine List.Sublist.cons _ ?_), List.Perm.refl _⟩
        · skip
          have hjk : j = k := by simp at hjk; omega
          subst hjk
          refine AW.exit ?_
          refine AQ.thenX ?_
          refine AQ.loopX ?_
          refine AQ.blockX rfl ?_
          refine AQ.blockN ?_
          refine AQ.thenN ?_
          refine AW.region ?_
          refine AO.op (O.add rfl rfl rfl (by exact wI64 (by omega))) rfl rfl rfl ?_
          refine AO.op (O.move rfl rfl) rfl rfl rfl ?_
          refine AO.nil ?_
          refine AQ.loopN _ _ _ (by omega) (⟨j + 1, by omega, rfl, by rw [okTo_succ, hok, okAt_yes hs hno]; rfl, rfl, rfl⟩) (by repeat (first | exact envNil | refine envCons rfl ?_)) ⟨_, by repeat (first | exact List.Sublist.slnil | refine List.Sublist.cons _ ?_), List.Perm.refl _⟩
    · skip
      have hlt : k = ws.length := by simp at hlt; omega
      subst hlt
      refine AW.exit ?_
      refine AQ.thenX ?_
      refine AQ.loopX ?_
      refine AQ.blockX rfl ?_
      refine AQ.thenN ?_
      refine AW.seq ?_
      refine AW.region ?_
      refine AO.op (O.assign rfl rfl) rfl rfl rfl ?_
      refine AO.nil ?_
      refine AQ.thenN ?_
      refine AW.ret ?_
      refine AQ.ret1 rfl rfl ⟨_, List.nil_sublist _, .nil⟩ (⟨by simp [ofConst, validW, hlen, hok], rfl⟩)
end Go.Proofs.YtoonnnifelnaiaaGreatDoor.Ob

namespace Go.Proofs.YtoonnnifelnaiaaGreatDoor.Ob
open Go.RowKit L A
set_option linter.unusedVariables false
set_option maxRecDepth 20000
set_option linter.unusedSimpArgs false
attribute [local irreducible] AW AQ AO

def newerB (a b c d : Int) : Bool := (decide (a < c) && decide (c - a < 8388608) || decide (c < a) && decide (8388608 < a - c)) || decide (128 < d - b)
set_option maxHeartbeats 1000000 in
theorem newer_fn (a b c d : Int) (h : 0 ≤ a ∧ a < 16777216 ∧ 0 ≤ c ∧ c < 16777216 ∧ -4611686018427387904 ≤ b ∧ b ≤ 4611686018427387903 ∧ -4611686018427387904 ≤ d ∧ d ≤ 4611686018427387903) : Sp Tryz.prog 19 [.val (.int .i64 a), .val (.int .i64 b), .val (.int .i64 c), .val (.int .i64 d)] [] (Is (.val (.bool (newerB a b c d)))) := by
  obtain ⟨g1, g2, g3, g4, g5, g6, g7, g8⟩ := h
  refine Sp.enter Tryz.func19 rfl _ Tryz.ntmps19 rfl (fun w0 R0 => ?_)
  refine AW.seq ?_
  refine AW.region ?_
  refine AO.op (O.assign rfl rfl) rfl rfl rfl ?_
  refine AO.nil ?_
  refine AQ.thenN ?_
  refine AW.seq ?_
  refine AW.region ?_
  refine AO.op (O.move rfl rfl) rfl rfl rfl ?_
  refine AO.op (O.move rfl rfl) rfl rfl rfl ?_
  refine AO.op (O.lss rfl rfl rfl (by rfl)) rfl rfl rfl ?_
  refine AO.op (O.move rfl rfl) rfl rfl rfl ?_
  refine AO.opG rfl rfl rfl (fun hp => O.move rfl rfl) ?_
  refine AO.opG rfl rfl rfl (fun hp => O.move rfl rfl) ?_
  refine AO.opG rfl rfl rfl (fun hp => OpW.force 13 rfl (by exact hp) (OpW.force 14 rfl (by exact hp) (O.sub rfl rfl rfl (by exact wI64 (by omega))))) ?_
  refine AO.opG rfl rfl rfl (fun hp => OpW.force 15 rfl (by exact hp) (O.lss rfl rfl rfl (by rfl))) ?_
  refine AO.op (O.pickAnd rfl rfl rfl rfl (fun h => by exact h)) rfl rfl rfl ?_
  refine AO.op (O.move rfl rfl) rfl rfl rfl ?_
  refine AO.opG rfl rfl rfl (fun hp => O.move rfl rfl) ?_
  refine AO.opG rfl rfl rfl (fun hp => O.move rfl rfl) ?_
  refine AO.opG rfl rfl rfl (fun hp => OpW.force 19 rfl (by exact hp) (OpW.force 20 rfl (by exact hp) (O.gtr rfl rfl rfl (by rfl)))) ?_
  refine AO.opG rfl rfl rfl (fun hp => OpW.force 21 rfl (by exact hp) (O.move rfl rfl)) ?_
  refine AO.opG rfl rfl rfl (fun hp => O.move rfl rfl) ?_
  refine AO.opG rfl rfl rfl (fun hp => O.move rfl rfl) ?_
  refine AO.opG rfl rfl rfl (fun hp => OpW.force 23 rfl (by exact hp) (OpW.force 24 rfl (by exact hp) (O.sub rfl rfl rfl (by exact wI64 (by omega))))) ?_
  refine AO.opG rfl rfl rfl (fun hp => OpW.force 25 rfl (by exact hp) (O.gtr rfl rfl rfl (by rfl))) ?_
  refine AO.opG rfl rfl rfl (fun hp => OpW.force 22 rfl (by exact hp) (O.pickAnd rfl rfl rfl rfl (fun h => by simp_all))) ?_
  refine AO.op (O.pickOr rfl rfl rfl rfl (fun h => by exact congrArg (fun b => !b) h)) rfl rfl rfl ?_
  refine AO.op (O.move rfl rfl) rfl rfl rfl ?_
  refine AO.opG rfl rfl rfl (fun hp => O.move rfl rfl) ?_
  refine AO.opG rfl rfl rfl (fun hp => O.move rfl rfl) ?_
  refine AO.opG rfl rfl rfl (fun hp => OpW.force 30 rfl (by exact hp) (OpW.force 31 rfl (by exact hp) (O.sub rfl rfl rfl (by exact wI64 (by omega))))) ?_
  refine AO.opG rfl rfl rfl (fun hp => OpW.force 32 rfl (by exact hp) (O.gtr rfl rfl rfl (by rfl))) ?_
  refine AO.op (O.pickOr rfl rfl rfl rfl (fun h => by exact congrArg (fun b => !b) h)) rfl rfl rfl ?_
  refine AO.op (O.assign rfl rfl) rfl rfl rfl ?_
  refine AO.nil ?_
  refine AQ.thenN ?_
  refine AW.ret ?_
  refine AQ.ret1 rfl rfl ⟨_, List.nil_sublist _, .nil⟩ (⟨by simp [newerB], rfl⟩)
theorem c1_fn (p : Int) (tk ky : List UInt8) (s t : Int) (p' : Int) (tk' ky' : List UInt8) (s' t' : Int) : Sp Tryz.prog 42 [.agg (cellsW p tk ky s t), .rp (cellsW p' tk' ky' s' t') 0] [] (Is (.val (.bool (!meetsB p tk ky p' tk' ky')))) := by
  refine Sp.enter Tryz.func42 rfl _ Tryz.ntmps42 rfl (fun w0 R0 => ?_)
  refine AW.seq ?_
  refine AW.region ?_
  refine AO.opB (O.box rfl rfl rfl rfl rfl) rfl rfl rfl ?_
  intro B
  refine AO.op (O.assign rfl rfl) rfl rfl rfl ?_
  refine AO.nil ?_
  refine AQ.thenN ?_
  refine AW.seq ?_
  refine AW.region ?_
  refine AO.op (O.loadK rfl rfl (by repeat (exact List.Mem.head _)) (by rfl) (by rfl)) rfl rfl rfl ?_
  refine AO.op (O.loadRK rfl rfl (by rfl) (by rfl)) rfl rfl rfl ?_
  refine AO.op (O.call rfl Tryz.func43 rfl rfl rfl (meets_fn _ _ _ _ _ _ _ _ _ _)) rfl rfl rfl ?_
  refine AO.op (O.not rfl rfl (by rfl)) rfl rfl rfl ?_
  refine AO.op (O.assign rfl rfl) rfl rfl rfl ?_
  refine AO.nil ?_
  refine AQ.thenN ?_
  refine AW.ret ?_
  refine AQ.ret1 rfl rfl ⟨_, List.nil_sublist _, .nil⟩ (⟨rfl, rfl⟩)
theorem c4_fn (p : Int) (tk ky : List UInt8) (s t : Int) : Sp Tryz.prog 45 [.agg (cellsW p tk ky s t)] [] (Is (.val (.bool true))) := by
  refine Sp.enter Tryz.func45 rfl _ Tryz.ntmps45 rfl (fun w0 R0 => ?_)
  refine AW.seq ?_
  refine AW.region ?_
  refine AO.opB (O.box rfl rfl rfl rfl rfl) rfl rfl rfl ?_
  intro B
  refine AO.op (O.assign rfl rfl) rfl rfl rfl ?_
  refine AO.nil ?_
  refine AQ.thenN ?_
  refine AW.seq ?_
  refine AW.region ?_
  refine AO.op (O.assign rfl rfl) rfl rfl rfl ?_
  refine AO.nil ?_
  refine AQ.thenN ?_
  refine AW.ret ?_
  refine AQ.ret1 rfl rfl ⟨_, List.nil_sublist _, .nil⟩ (⟨rfl, rfl⟩)
theorem c5_fn (p : Int) (tk ky : List UInt8) (s t : Int) (ky' : List UInt8) : Sp Tryz.prog 47 [.agg (cellsW p tk ky s t), .rp [roB ky'] 0] [] (Is (.val (.bool (ky == ky')))) := by
  refine Sp.enter Tryz.func47 rfl _ Tryz.ntmps47 rfl (fun w0 R0 => ?_)
  refine AW.seq ?_
  refine AW.region ?_
  refine AO.opB (O.box rfl rfl rfl rfl rfl) rfl rfl rfl ?_
  intro B
  refine AO.op (O.assign rfl rfl) rfl rfl rfl ?_
  refine AO.nil ?_
  refine AQ.thenN ?_
  refine AW.seq ?_
  refine AW.region ?_
  refine AO.op (O.fieldAddr rfl rfl) rfl rfl rfl ?_
  refine AO.op (O.load rfl rfl (by repeat (exact List.Mem.head _)) (by rfl)) rfl rfl rfl ?_
  refine AO.op (O.loadR rfl rfl (by rfl)) rfl rfl rfl ?_
  refine AO.op (O.call rfl Tryz.func46 rfl rfl rfl (equal_fn _ _)) rfl rfl rfl ?_
  refine AO.op (O.assign rfl rfl) rfl rfl rfl ?_
  refine AO.nil ?_
  refine AQ.thenN ?_
  refine AW.ret ?_
  refine AQ.ret1 rfl rfl ⟨_, List.nil_sublist _, .nil⟩ (⟨rfl, rfl⟩)

/-- Lists that are not long. -/
def Short (ws : List Watch) : Prop := ws.length ≤ 1000000 ∧ ∀ w ∈ ws, w.tok.length ≤ 4294967296 ∧ w.key.length ≤ 4294967296
theorem Short.at {ws : List Watch} (h : Short ws) {k : Nat} (hk : k < ws.length) : (wat ws k).tok.length ≤ 4294967296 ∧ (wat ws k).key.length ≤ 4294967296 := by
  have : wat ws k = ws[k] := by simp [wat, hk]
  rw [this]; exact h.2 _ (List.getElem_mem hk)

def keptTo (K : Watch → Bool) (ws : List Watch) (k : Nat) : List Watch := (ws.take k).filter K
theorem keptTo_succ {K : Watch → Bool} {ws : List Watch} {k : Nat} (h : k < ws.length) : keptTo K ws (k + 1) = keptTo K ws k ++ if K (wat ws k) = true then [wat ws k] else [] := by
  have : wat ws k = ws[k] := by simp [wat, h]
  rw [this, keptTo, List.take_succ_eq_append_getElem h, List.filter_append]
  by_cases hk : K ws[k] = true <;> simp [keptTo, hk]
theorem keptTo_le (K : Watch → Bool) (ws : List Watch) (k : Nat) : (keptTo K ws k).length ≤ k := by
  have h1 := List.length_filter_le K (ws.take k)
  have h2 := List.length_take_le k ws
  unfold keptTo; omega
theorem keptTo_all (K : Watch → Bool) (ws : List Watch) : keptTo K ws ws.length = ws.filter K := by simp [keptTo]
set_option maxHeartbeats 1000000 in
theorem filter_fn (ws : List Watch) (hsh : Short ws) (K : Watch → Bool) (f : FuncId) (caps : List AV) (g : Func) (hf : Tryz.prog.funcs[f]? = some g) (hn : (g.name == "runtime.NumGoroutine") = false) (hb : g.body.isNone = false)
    (hk : ∀ p tk ky s t, Sp Tryz.prog f ([.agg (cellsW p tk ky s t)] ++ caps) [] (Is (.val (.bool (K ⟨p, tk, ky, s, t⟩))))) :
    Sp Tryz.prog 41 [roW ws, .fn (.func f) caps] [] (NewRow 34 5 (ws.filter K).length (watchesA (ws.filter K))) := by
  have hlen := hsh.1
  refine Sp.enter Tryz.func41 rfl _ Tryz.ntmps41 rfl (fun w0 R0 => ?_)
  refine AW.seq ?_
  refine AW.region ?_
  refine AO.op (O.assign rfl rfl) rfl rfl rfl ?_
  refine AO.nil ?_
  refine AQ.thenN ?_
  refine AW.seq ?_
  refine AW.region ?_
  refine AO.op (O.assign rfl rfl) rfl rfl rfl ?_
  refine AO.nil ?_
  refine AQ.thenN ?_
  refine AW.seq ?_
  refine AW.seq ?_
  refine AW.region ?_
  refine AO.op (O.move rfl rfl) rfl rfl rfl ?_
  refine AO.op (O.lenR rfl rfl) rfl rfl rfl ?_
  refine AO.op (O.move rfl rfl) rfl rfl rfl ?_
  refine AO.nil ?_
  refine AQ.thenN ?_
  refine AW.block ?_
  refine AW.g ?_
  refine G.nilRow 34 5 ?_
  refine AW.u ?_
  refine AW.loop (fun n E H => ∃ (k : Nat) (V : Value), k ≤ ws.length ∧ V.oneCell' = true ∧ n = ws.length - k ∧ E = [(1, .fn (.func f) caps), (5, .val V), (8, roW ws), (9, .val (.int .i64 (ws.length : Int))), (10, .val (.int .i64 (k : Int)))] ∧ H = [.row V 34 5 (keptTo K ws k).length (watchesA (keptTo K ws k))]) (ws.length) (⟨0, .slice none 0 0, by omega, rfl, rfl, rfl, rfl⟩) (by repeat (first | exact envNil | refine envCons rfl ?_)) ⟨_, by repeat (first | exact List.Sublist.slnil | refine List.Sublist.cons_cons _ ?_), List.Perm.refl _⟩ ?_
  rintro n E H ⟨k, V0, hk1, hV0, rfl, rfl, rfl⟩
  refine AW.seq ?_
  refine AW.region ?_
  refine AO.op (O.lss rfl rfl rfl (by rfl)) rfl rfl rfl ?_
  refine AO.nil ?_
  refine AQ.thenN ?_
  refine AW.seq ?_
  refine AW.split rfl (fun hlt => ?_) (fun hlt => ?_)
  · skip
    have hlt : k < ws.length := by simpa using hlt
    have hle := keptTo_le K ws k
    refine AW.skip ?_
    refine AQ.thenN ?_
    refine AW.seq ?_
    refine AW.block ?_
    refine AW.seq ?_
    refine AW.region ?_
    refine AO.op (O.idxR rfl rfl rfl ⟨(by omega), (by omega)⟩) rfl rfl rfl ?_
    refine AO.op (O.loadRK rfl rfl (by exact getW (by assumption)) (by rfl)) rfl rfl rfl ?_
    refine AO.opB (O.alloc rfl (by (dsimp only [zerosA, List.replicate, List.append, List.flatten, AV.cells, Value.cells, List.toList_toArray, List.map]; done)) (by rfl)) rfl rfl rfl ?_
    intro B
    (refine AO.store (i := 0) rfl rfl rfl rfl rfl rfl (by rfl) (by rfl) (by rfl) (by (dsimp only [List.set, List.cons_append, List.nil_append, List.take, List.drop]; done)) (by (dsimp only [List.set, List.cons_append, List.nil_append, List.take, List.drop]; done)) ?_)
    refine AO.nil ?_
    refine AQ.thenN ?_
    refine AW.seq ?_
    refine AW.region ?_
    refine AO.op (O.move rfl rfl) rfl rfl rfl ?_
    (refine AO.op (O.loadK rfl rfl (by repeat (exact List.Mem.head _)) (by (dsimp only [List.set, List.cons_append, List.nil_append, List.take, List.drop]; done)) (by rfl)) rfl rfl rfl ?_)
    refine AO.op (O.callV rfl rfl hf hn hb rfl (hk _ _ _ _ _)) rfl rfl rfl ?_
    refine AO.nil ?_
    refine AQ.thenN ?_
    refine AW.split rfl (fun hK => ?_) (fun hK => ?_)
    · skip
      have hK : K (wat ws k) = true := hK
      refine AW.region ?_
      refine AO.op (O.move rfl rfl) rfl rfl rfl ?_
      (refine AO.op (O.loadK rfl rfl (by repeat (exact List.Mem.head _)) (by (dsimp only [List.set, List.cons_append, List.nil_append, List.take, List.drop]; done)) (by rfl)) rfl rfl rfl ?_)
      refine AO.op (O.call rfl Tryz.func44 rfl rfl rfl (owned_fn _ _ _ _ _ (hsh.at hlt).1 (hsh.at hlt).2)) rfl rfl rfl ?_
      refine AO.opB (O.buildSlice rfl rfl rfl (by rfl) (by rfl) (by rfl) (by rfl)) rfl rfl rfl ?_
      intro B
      refine AO.g ?_
      (refine G.freezeSl 0 20 rfl rfl ⟨Nat.le_refl _, by unfold maxLen; omega⟩ ?_)
      refine G.unfull 20 rfl ?_
      refine AO.u ?_
      dsimp only [List.eraseIdx]
      (refine AO.append' (i := 1) rfl rfl rfl rfl (by rfl) (by rfl) rfl rfl rfl (by exact SrcA.ro TyD.ax (by rfl) (Nat.le_of_ble_eq_true rfl)) (by rfl) (by (unfold maxLen; omega)) (by omega) (by (dsimp only [List.set, List.cons_append, List.nil_append, List.take, List.drop]; done)) (fun _ => by (dsimp only [List.set]; done)) ?_)
      intro V hV
      refine AO.op (O.assign rfl rfl) rfl rfl rfl ?_
      refine AO.nil ?_
      refine AQ.blockN ?_
      refine AQ.thenN ?_
      refine AW.region ?_
      refine AO.op (O.add rfl rfl rfl (by exact wI64 (by omega))) rfl rfl rfl ?_
      refine AO.op (O.move rfl rfl) rfl rfl rfl ?_
      refine AO.nil ?_
      refine AQ.loopN _ _ _ (by omega) (⟨k + 1, V, by omega, hV, rfl, rfl, by rw [keptTo_succ hlt, if_pos hK, watchesA_app, List.length_append]⟩) (by repeat (first | exact envNil | refine envCons rfl ?_)) ⟨_, by repeat (first | exact List.Sublist.slnil | refine List.Sublist.cons_cons _ ?_ | refine List.Sublist.cons _ ?_), List.Perm.refl _⟩
    · skip
      have hK : K (wat ws k) = false := hK
      refine AW.skip ?_
      refine AQ.blockN ?_
      refine AQ.thenN ?_
      refine AW.region ?_
      refine AO.op (O.add rfl rfl rfl (by exact wI64 (by omega))) rfl rfl rfl ?_
      refine AO.op (O.move rfl rfl) rfl rfl rfl ?_
      refine AO.nil ?_
      refine AQ.loopN _ _ _ (by omega) (⟨k + 1, V0, by omega, hV0, rfl, rfl, by rw [keptTo_succ hlt, if_neg (by simp [hK]), List.append_nil]⟩) (by repeat (first | exact envNil | refine envCons rfl ?_)) ⟨_, by repeat (first | exact List.Sublist.slnil | refine List.Sublist.cons_cons _ ?_ | refine List.Sublist.cons _ ?_), List.Perm.refl _⟩
  · skip
    have hlt : k = ws.length := by simp at hlt; omega
    subst hlt
    rw [keptTo_all]
    refine AW.exit ?_
    refine AQ.thenX ?_
    refine AQ.loopX ?_
    refine AQ.blockX rfl ?_
    refine AQ.thenN ?_
    refine AW.seq ?_
    refine AW.region ?_
    refine AO.op (O.move rfl rfl) rfl rfl rfl ?_
    refine AO.op (O.assign rfl rfl) rfl rfl rfl ?_
    refine AO.nil ?_
    refine AQ.thenN ?_
    refine AW.ret ?_
    refine AQ.ret1 rfl rfl ⟨_, by repeat (first | exact List.Sublist.slnil | refine List.Sublist.cons_cons _ ?_), List.Perm.refl _⟩ (⟨V0, rfl, hV0, rfl⟩)
end Go.Proofs.YtoonnnifelnaiaaGreatDoor.Ob

namespace Go.Proofs.YtoonnnifelnaiaaGreatDoor.Ob
open Go.RowKit L A
set_option linter.unusedVariables false
set_option maxRecDepth 20000
set_option linter.unusedSimpArgs false
attribute [local irreducible] AW AQ AO

def cancelW (ws : List Watch) (p : Int) (tk : List UInt8) : List Watch := ws.filter fun w => w.peer != p || !(w.tok == tk)
def forgetW (ws : List Watch) (p : Int) : List Watch := ws.filter fun w => w.peer != p
def regW (ws : List Watch) (p : Int) (tk ky : List UInt8) (now : Int) : List Watch × Int :=
  if (!validW ws || !soundB p tk ky 0 now) = true then ([], 1) else
  if 16 ≤ (ws.filter fun w => !meetsB w.peer w.tok w.key p tk ky).length then ([], 16) else ((ws.filter fun w => !meetsB w.peer w.tok w.key p tk ky) ++ [⟨p, tk, ky, 0, now⟩], 0)

end Go.Proofs.YtoonnnifelnaiaaGreatDoor.Ob

namespace Go.Proofs.YtoonnnifelnaiaaGreatDoor.Ob
open Go.RowKit L A
set_option linter.unusedVariables false
set_option maxRecDepth 20000
set_option linter.unusedSimpArgs false
attribute [local irreducible] AW AQ AO

def sameW (a b : List Watch) : Bool := decide (a.length = b.length) && (List.range a.length).all fun i => wat a i == wat b i
end Go.Proofs.YtoonnnifelnaiaaGreatDoor.Ob

namespace Go.Proofs.YtoonnnifelnaiaaGreatDoor.Ob
open Go.RowKit L A
set_option linter.unusedVariables false
set_option maxRecDepth 20000
set_option linter.unusedSimpArgs false
attribute [local irreducible] AW AQ AO

theorem mod_fn (v n : Int) (h1 : 0 < n) (h2 : n ≤ 4611686018427387904) : Sp Tryz.prog 11 [.val (.int .i64 v), .val (.int .i64 n)] [] (Is (.val (.int .i64 (v % n)))) := by
  have hf := tmod_fix2 v n h1
  have hlt : v.tmod n < n := Int.tmod_lt_of_pos v h1
  have hge : -n < v.tmod n := by
    rcases Int.le_total 0 v with hv | hv
    · have := Int.tmod_nonneg n hv; omega
    · have := Int.lt_tmod_of_pos v h1; omega
  refine Sp.enter Tryz.func11 rfl _ Tryz.ntmps11 rfl (fun w0 R0 => ?_)
  refine AW.seq ?_
  refine AW.region ?_
  refine AO.op (O.assign rfl rfl) rfl rfl rfl ?_
  refine AO.nil ?_
  refine AQ.thenN ?_
  refine AW.seq ?_
  refine AW.region ?_
  refine AO.op (O.move rfl rfl) rfl rfl rfl ?_
  refine AO.op (O.move rfl rfl) rfl rfl rfl ?_
  refine AO.op (O.rem rfl rfl rfl (by omega) rfl) rfl rfl rfl ?_
  refine AO.op (O.assign rfl rfl) rfl rfl rfl ?_
  refine AO.nil ?_
  refine AQ.thenN ?_
  refine AW.seq ?_
  refine AW.seq ?_
  refine AW.region ?_
  refine AO.op (O.move rfl rfl) rfl rfl rfl ?_
  refine AO.op (O.lss rfl rfl rfl (by first | exact bTrue (by omega) | exact bFalse (by omega) | assumption | rfl)) rfl rfl rfl ?_
  refine AO.nil ?_
  refine AQ.thenN ?_
  refine AW.split rfl (fun h => ?_) (fun h => ?_)
  · skip
    have h : v.tmod n < 0 := of_decide_eq_true h
    rw [if_pos h] at hf
    refine AW.region ?_
    refine AO.op (O.move rfl rfl) rfl rfl rfl ?_
    refine AO.op (O.move rfl rfl) rfl rfl rfl ?_
    refine AO.op (O.add rfl rfl rfl (by first | exact wI64 (by omega) | rfl)) rfl rfl rfl ?_
    refine AO.op (O.assign rfl rfl) rfl rfl rfl ?_
    refine AO.nil ?_
    refine AQ.thenN ?_
    refine AW.seq ?_
    refine AW.region ?_
    refine AO.op (O.move rfl rfl) rfl rfl rfl ?_
    refine AO.op (O.assign rfl rfl) rfl rfl rfl ?_
    refine AO.nil ?_
    refine AQ.thenN ?_
    refine AW.ret ?_
    refine AQ.ret1 rfl rfl ⟨_, List.nil_sublist _, .nil⟩ (⟨by rw [hf], rfl⟩)
  · skip
    have h : ¬ v.tmod n < 0 := of_decide_eq_false h
    rw [if_neg h] at hf
    refine AW.skip ?_
    refine AQ.thenN ?_
    refine AW.seq ?_
    refine AW.region ?_
    refine AO.op (O.move rfl rfl) rfl rfl rfl ?_
    refine AO.op (O.assign rfl rfl) rfl rfl rfl ?_
    refine AO.nil ?_
    refine AQ.thenN ?_
    refine AW.ret ?_
    refine AQ.ret1 rfl rfl ⟨_, List.nil_sublist _, .nil⟩ (⟨by rw [hf], rfl⟩)

end Go.Proofs.YtoonnnifelnaiaaGreatDoor.Ob

namespace Go.Proofs.YtoonnnifelnaiaaGreatDoor.Ob
open Go.RowKit L A
set_option linter.unusedVariables false
set_option maxRecDepth 20000
set_option linter.unusedSimpArgs false
attribute [local irreducible] AW AQ AO

def lightW (w : Watch) : Bool := !(decide (50 < (w.tok.length : Int)) || !decide ((w.key.length : Int) ≤ 600))
def lightB (ws : List Watch) : Bool := ws.all lightW && decide (ws.length ≤ 30)
def fullW (m : Nat) : List Watch := (List.range m).map fun i : Nat => ⟨(i : Int), [UInt8.ofNat i], [1], 0, 0⟩
end Go.Proofs.YtoonnnifelnaiaaGreatDoor.Ob

namespace Go.Proofs.YtoonnnifelnaiaaGreatDoor.Ob
open Go.RowKit L A
set_option linter.unusedVariables false
set_option maxRecDepth 20000
set_option linter.unusedSimpArgs false
attribute [local irreducible] AW AQ AO

abbrev rowW (V : Value) (ws : List Watch) : HE := .row V 34 5 ws.length (watchesA ws)
/-- A new registry beside the old one. -/
def RegO (V : Value) (ws : List Watch) (r : List Watch × Int) : AV → List HE → Prop := fun q H' => ∃ V' : Value, V'.oneCell' = true ∧ q = .tup [.val V', .val (.int .i64 r.2)] ∧ H' = [rowW V' r.1, rowW V ws]

end Go.Proofs.YtoonnnifelnaiaaGreatDoor.Ob

namespace Go.Proofs.YtoonnnifelnaiaaGreatDoor.Ob
open Go.RowKit L A Dk
set_option linter.unusedVariables false
set_option maxRecDepth 20000
set_option linter.unusedSimpArgs false
attribute [local irreducible] AW AQ AO

/-- The registrations, k to go. -/
def bLoop (l : List Int) : Nat → List Watch → Nat → List Watch × Nat
  | 0, L, a => (L, a)
  | k + 1, L, a => bLoop l k (if (regW L (nxt l a 5) [u8 (nxt l (adv l a) 5)] [u8 (nxt l (adv l (adv l a)) 4)] ((k : Int) + 1)).2 = 0 then (regW L (nxt l a 5) [u8 (nxt l (adv l a) 5)] [u8 (nxt l (adv l (adv l a)) 4)] ((k : Int) + 1)).1 else L) (adv l (adv l (adv l a)))
def seqV (z : Int) : Int := if z = 0 then 0 else if z = 1 then 1 else if z = 2 then 5 else 16777215
/-- The numbers, i done. -/
def sLoop (l : List Int) (L : List Watch) (a : Nat) : Nat → List Watch × Nat
  | 0 => (L, a)
  | i + 1 => ((sLoop l L a i).1.set i { wat (sLoop l L a i).1 i with seq := seqV (nxt l (sLoop l L a i).2 4) }, adv l (sLoop l L a i).2)
def regOf (l : List Int) (a : Nat) : List Watch × Nat :=
  let r := bLoop l (nxt l a 22).toNat [] (adv l a)
  sLoop l r.1 r.2 r.1.length

/-- What registries of the laws look like. -/
def Small (L : List Watch) : Prop := L.length ≤ 16 ∧ ∀ w ∈ L, w.tok.length = 1 ∧ w.key.length = 1
theorem Small.nil : Small [] := ⟨by simp, fun w hw => by cases hw⟩
theorem Small.set {L : List Watch} (h : Small L) {i : Nat} {s : Int} (hi : i < L.length) : Small (L.set i { wat L i with seq := s }) := by
  refine ⟨by rw [List.length_set]; exact h.1, fun w hw => ?_⟩
  rcases List.mem_or_eq_of_mem_set hw with hw | rfl
  · exact h.2 w hw
  · have : wat L i = L[i] := by simp [wat, hi]
    rw [this]
    exact h.2 L[i] (List.getElem_mem hi)
theorem watchesA_set : ∀ (M : List Watch) (i : Nat) (s : Int), i < M.length → (watchesA M).set (i * 5 + 3) (.val (.int .i64 s)) = watchesA (M.set i { wat M i with seq := s })
  | [], i, s, h => by simp at h
  | w :: M, 0, s, h => by rw [watchesA_cons]; rfl
  | w :: M, i + 1, s, h => by
    rw [watchesA_cons, List.set_cons_succ, watchesA_cons, show wat (w :: M) (i + 1) = wat M i by simp [wat], ← watchesA_set M i s (by simpa using h), show (i + 1) * 5 + 3 = (i * 5 + 3) + 5 by omega]
    rfl
theorem spliceW {M : List Watch} {i : Nat} {s : Int} (h : i < M.length) : splice (watchesA M) (0 + Int.toNat (i : Int) * 5 + 3) [.val (.int .i64 s)] = watchesA (M.set i { wat M i with seq := s }) := by
  rw [Nat.zero_add]; exact watchesA_set M i s h

end Go.Proofs.YtoonnnifelnaiaaGreatDoor.Ob
