/-
  Layer 15: the encoding, both.
-/
import Derived.Test.YtiddmpmpjdnmeaaCob
namespace Go.Proofs.Ytiddmpmpjdnmeaa.By
open Go.RowKit L A
set_option linter.unusedVariables false
set_option linter.unusedSimpArgs false
attribute [local irreducible] AW AQ AO

def rawTo (m : Msg) (k : Nat) : List UInt8 := headM m ++ m.tok ++ rawO 0 (m.opts.take k)
theorem rawTo_succ {m : Msg} {k : Nat} (h : k < m.opts.length) : rawTo m (k + 1) = rawTo m k ++ (hdr ((oat m.opts k).num - lastO 0 (m.opts.take k)) (oat m.opts k).val.length ++ (oat m.opts k).val) := by
  rw [rawTo, take_snoc Opt.none h, rawO_snoc, rawTo]; simp
theorem rawTo_len {m : Msg} (h : OkM m) (k : Nat) : (rawTo m k).length ≤ 12 + k * 1039 := by
  have h1 := rawO_len (AscO_take h.2.2.1 k)
  have h2 := h.2.1.2.2.1
  simp only [rawTo, headM, List.length_append, List.length_cons, List.length_nil, List.length_take] at h1 ⊢
  have : min k m.opts.length * 1039 ≤ k * 1039 := Nat.mul_le_mul_right _ (Nat.min_le_left _ _)
  omega
theorem raw_end (m : Msg) : raw m = rawTo m m.opts.length ++ (if m.pay = [] then [] else 255 :: m.pay) := by rw [raw, rawTo, List.take_length]

set_option maxHeartbeats 4000000 in
theorem encode_fn (m : Msg) (h : OkM m) : Sp Try.prog 44 [aggM m] [] (Is (roB (raw m))) := by
  have hlen := fun k => rawTo_len h k
  obtain ⟨⟨a1, a2, a3, a4, a5⟩, ⟨a6, a7, a8, a9⟩, a10, -, -, a11⟩ := h
  refine Sp.enter Try.func44 rfl _ Try.ntmps44 rfl (fun w0 R0 => ?_)
  have hd0a : (rawTo m 0).length = 4 + m.tok.length := by simp [rawTo, headM, rawO]; omega
  have hd0b : bytesA (rawTo m 0) = .val (.int .u8 ((u8 (64 + m.ty * 16 + m.tok.length)).toNat : Int)) :: .val (.int .u8 ((u8 m.code).toNat : Int)) :: .val (.int .u8 ((u8 (m.id / 256)).toNat : Int)) :: .val (.int .u8 ((u8 m.id).toNat : Int)) :: bytesA m.tok := by
    simp only [rawTo, headM, List.take_zero, rawO, List.append_nil, bytesA_app]
    simp [bytesA, show m.ty * 16 = 16 * m.ty by omega]
  refine AW.seq ?_
  refine AW.region ?_
  refine AO.opB (O.box rfl rfl rfl rfl rfl) rfl rfl rfl ?_
  intro B1
  refine AO.op (O.assign rfl rfl) rfl rfl rfl ?_
  refine AO.nil ?_
  refine AQ.thenN ?_
  refine AW.seq ?_
  refine AW.region ?_
  refine AO.op (O.fieldAddr rfl rfl) rfl rfl rfl ?_
  refine AO.op (O.load rfl rfl (by repeat (exact List.Mem.head _)) (by rfl)) rfl rfl rfl ?_
  refine AO.op (O.shlK 4 16 rfl rfl rfl rfl (by rfl) (by exact wI64 (by omega))) rfl rfl rfl ?_
  refine AO.op (O.or_ rfl rfl rfl (orI64 6 (m := 64) (by decide) (by omega) (by omega))) rfl rfl rfl ?_
  refine AO.op (O.fieldAddr rfl rfl) rfl rfl rfl ?_
  refine AO.op (O.load rfl rfl (by repeat (exact List.Mem.head _)) (by rfl)) rfl rfl rfl ?_
  refine AO.op (O.lenR rfl rfl) rfl rfl rfl ?_
  refine AO.op (O.or_ rfl rfl rfl (orI64 4 (m := 16) (by decide) (by omega) (by omega))) rfl rfl rfl ?_
  refine AO.op (O.conv rfl rfl wU8any) rfl rfl rfl ?_
  refine AO.op (O.fieldAddr rfl rfl) rfl rfl rfl ?_
  refine AO.op (O.load rfl rfl (by repeat (exact List.Mem.head _)) (by rfl)) rfl rfl rfl ?_
  refine AO.op (O.conv rfl rfl wU8any) rfl rfl rfl ?_
  refine AO.op (O.fieldAddr rfl rfl) rfl rfl rfl ?_
  refine AO.op (O.load rfl rfl (by repeat (exact List.Mem.head _)) (by rfl)) rfl rfl rfl ?_
  refine AO.op (O.shrK 8 256 rfl rfl rfl rfl (by rfl)) rfl rfl rfl ?_
  refine AO.op (O.conv rfl rfl wU8any) rfl rfl rfl ?_
  refine AO.op (O.fieldAddr rfl rfl) rfl rfl rfl ?_
  refine AO.op (O.load rfl rfl (by repeat (exact List.Mem.head _)) (by rfl)) rfl rfl rfl ?_
  refine AO.op (O.conv rfl rfl wU8any) rfl rfl rfl ?_
  refine AO.opB (O.buildSlice rfl rfl rfl (by rfl) (by rfl) (by rfl) (by rfl)) rfl rfl rfl ?_
  intro B2
  refine AO.g ?_
  refine G.closeRow (b := B2) (n := 4) (cap := 4) 0 rfl rfl rfl (Nat.le_refl _) (by (unfold maxLen; omega)) ?_
  refine AO.u ?_
  dsimp only [List.set]
  refine AO.op (O.assign rfl rfl) rfl rfl rfl ?_
  refine AO.nil ?_
  refine AQ.thenN ?_
  refine AW.seq ?_
  refine AW.region ?_
  refine AO.op (O.move rfl rfl) rfl rfl rfl ?_
  refine AO.op (O.fieldAddr rfl rfl) rfl rfl rfl ?_
  refine AO.op (O.load rfl rfl (by repeat (first | exact List.Mem.head _ | refine List.Mem.tail _ ?_)) (by rfl)) rfl rfl rfl ?_
  (refine AO.append' (i := 0) rfl rfl rfl rfl (by rfl) (by rfl) rfl rfl rfl (by exact SrcA.ro TyD.ax (by (simp; done)) (Nat.le_of_ble_eq_true rfl)) (by (simp [AV.cells, AV.one, *]; done)) (by (unfold maxLen; omega)) (by omega) (by (dsimp only [List.set, List.append, List.cons_append, List.nil_append, roB_cells, roI_cells, roO_cells, splice, ofConst, AV.cells, List.map, List.map_cons, List.map_nil, List.take, List.drop, Nat.zero_add, Nat.add_zero, Nat.reduceAdd, Nat.reduceMul, Nat.zero_mul, Value.cells, List.toList_toArray, zerosA, List.replicate, List.flatten, List.append_nil]; done)) (fun _ => by (dsimp only [List.set]; done)) ?_)
  intro V3 hV3
  refine AO.op (O.assign rfl rfl) rfl rfl rfl ?_
  refine AO.nil ?_
  refine AQ.thenN ?_
  refine AW.seq ?_
  refine AW.region ?_
  refine AO.op (O.assign rfl rfl) rfl rfl rfl ?_
  refine AO.nil ?_
  refine AQ.thenN ?_
  refine AW.seq ?_
  refine AW.seq ?_
  refine AW.region ?_
  refine AO.op (O.fieldAddr rfl rfl) rfl rfl rfl ?_
  refine AO.op (O.load rfl rfl (by repeat (first | exact List.Mem.head _ | refine List.Mem.tail _ ?_)) (by rfl)) rfl rfl rfl ?_
  refine AO.op (O.lenR rfl rfl) rfl rfl rfl ?_
  refine AO.op (O.move rfl rfl) rfl rfl rfl ?_
  refine AO.nil ?_
  refine AQ.thenN ?_
  refine AW.block ?_
  refine AW.loopK [(1, _), (36, _), (37, _)] (fun nn E H => ∃ (k : Nat) (V : Value), (k ≤ m.opts.length) ∧ (V.oneCell' = true) ∧ nn = m.opts.length - k ∧ E = [(3, .val V), (4, .val (.int .i64 (lastO 0 (m.opts.take k)))), (38, .val (.int .i64 (k : Int)))] ∧ H = [.row V 5 1 (rawTo m k).length (bytesA (rawTo m k)), .blk B1 31 6 [.val (.int .i64 m.ty), .val (.int .i64 m.code), .val (.int .i64 m.id), roB m.tok, roO m.opts, roB m.pay]]) _ (⟨0, V3, by omega, hV3, rfl, rfl, by rw [hd0b, hd0a]⟩) (by repeat (first | exact envNil | refine envCons rfl ?_)) (by repeat (first | exact envNil | refine envCons rfl ?_)) (by repeat (first | exact subPnil | refine subPcons 0 rfl ?_)) ?_
  rintro nn E H ⟨k, V, h1, hV, rfl, rfl, rfl⟩
  dsimp only [List.cons_append, List.nil_append]
  have hl0 := hlen k
  refine AW.seq ?_
  refine AW.region ?_
  refine AO.op (O.lss rfl rfl rfl (by rfl)) rfl rfl rfl ?_
  refine AO.nil ?_
  refine AQ.thenN ?_
  refine AW.seq ?_
  refine AW.split rfl (fun h3 => ?_) (fun h3 => ?_) <;> (try simp only [decide_eq_true_eq, decide_eq_false_iff_not, beq_iff_eq, beq_eq_false_iff_ne, bne_iff_ne, bne_eq_false_iff_eq, Bool.not_eq_true', Bool.not_eq_false', Bool.not_eq_true, Bool.not_eq_false, ne_eq, Int.not_lt, Int.not_le, Bool.and_eq_true, Bool.or_eq_true, Bool.or_eq_false_iff, Bool.and_eq_false_imp, strOf_toList, Decidable.not_not] at h3)
  · skip
    have hk : k < m.opts.length := by omega
    have hl1 := hlen (k + 1)
    have ho := AscO_at a10 hk
    have hla := lastO_le (AscO_take a10 k) (by omega)
    have hd1 := ext_le ((oat m.opts k).num - lastO 0 (m.opts.take k)) (by omega)
    have hq1 := ext_le ((oat m.opts k).val.length : Int) (by omega)
    have hd2 := ext_len ((oat m.opts k).num - lastO 0 (m.opts.take k))
    have hq2 := ext_len ((oat m.opts k).val.length : Int)
    have hdu := u8_small (x := (ext ((oat m.opts k).num - lastO 0 (m.opts.take k))).1) (by omega)
    have hqu := u8_small (x := (ext ((oat m.opts k).val.length : Int)).1) (by omega)
    have hxu := u8_small (x := 16 * (ext ((oat m.opts k).num - lastO 0 (m.opts.take k))).1 + (ext ((oat m.opts k).val.length : Int)).1) (by omega)
    have hxv : ((u8 (16 * (ext ((oat m.opts k).num - lastO 0 (m.opts.take k))).1 + (ext ((oat m.opts k).val.length : Int)).1)).toNat : Int) = ((u8 (ext ((oat m.opts k).num - lastO 0 (m.opts.take k))).1).toNat : Int) * 16 + ((u8 (ext ((oat m.opts k).val.length : Int)).1).toNat : Int) := by omega
    have hlast : lastO 0 (m.opts.take (k + 1)) = (oat m.opts k).num := by rw [take_snoc Opt.none hk, lastO_snoc]
    have hsc : bytesA (rawTo m (k + 1)) = bytesA (rawTo m k) ++ [.val (.int .u8 (((u8 (ext ((oat m.opts k).num - lastO 0 (m.opts.take k))).1).toNat : Int) * 16 + ((u8 (ext ((oat m.opts k).val.length : Int)).1).toNat : Int)))] ++ bytesA (ext ((oat m.opts k).num - lastO 0 (m.opts.take k))).2 ++ bytesA (ext ((oat m.opts k).val.length : Int)).2 ++ bytesA (oat m.opts k).val := by
      rw [rawTo_succ hk, hdr]
      simp only [bytesA_app, List.append_assoc, List.cons_append, bytesA, List.map_cons, List.map_nil, List.nil_append, List.map_append, hxv]
    have hsl : (rawTo m (k + 1)).length = (rawTo m k).length + 1 + (ext ((oat m.opts k).num - lastO 0 (m.opts.take k))).2.length + (ext ((oat m.opts k).val.length : Int)).2.length + (oat m.opts k).val.length := by
      rw [rawTo_succ hk, hdr]
      simp only [List.length_append, List.length_cons]; omega
    refine AW.skip ?_
    refine AQ.thenN ?_
    refine AW.seq ?_
    refine AW.block ?_
    refine AW.seq ?_
    refine AW.region ?_
    refine AO.op (O.idxR rfl rfl rfl ⟨(by omega), (by omega)⟩) rfl rfl rfl ?_
    refine AO.op (O.loadRK rfl rfl (by exact getO (by omega) (by omega)) (by rfl)) rfl rfl rfl ?_
    refine AO.opB (O.alloc rfl (by (dsimp only [List.set, List.append, List.cons_append, List.nil_append, roB_cells, roI_cells, roO_cells, splice, ofConst, AV.cells, List.map, List.map_cons, List.map_nil, List.take, List.drop, Nat.zero_add, Nat.add_zero, Nat.reduceAdd, Nat.reduceMul, Nat.zero_mul, Value.cells, List.toList_toArray, zerosA, List.replicate, List.flatten, List.append_nil]; done)) (by rfl)) rfl rfl rfl ?_
    intro B4
    (refine AO.store (i := 0) rfl rfl rfl rfl rfl rfl (by rfl) (by rfl) (by rfl) (by (dsimp only [List.set, List.append, List.cons_append, List.nil_append, roB_cells, roI_cells, roO_cells, splice, ofConst, AV.cells, List.map, List.map_cons, List.map_nil, List.take, List.drop, Nat.zero_add, Nat.add_zero, Nat.reduceAdd, Nat.reduceMul, Nat.zero_mul, Value.cells, List.toList_toArray, zerosA, List.replicate, List.flatten, List.append_nil]; done)) (by (dsimp only [List.set, List.append, List.cons_append, List.nil_append, roB_cells, roI_cells, roO_cells, splice, ofConst, AV.cells, List.map, List.map_cons, List.map_nil, List.take, List.drop, Nat.zero_add, Nat.add_zero, Nat.reduceAdd, Nat.reduceMul, Nat.zero_mul, Value.cells, List.toList_toArray, zerosA, List.replicate, List.flatten, List.append_nil]; done)) ?_)
    refine AO.nil ?_
    refine AQ.thenN ?_
    refine AW.seq ?_
    refine AW.region ?_
    refine AO.op (O.fieldAddr rfl rfl) rfl rfl rfl ?_
    refine AO.op (O.load rfl rfl (by repeat (exact List.Mem.head _)) (by rfl)) rfl rfl rfl ?_
    refine AO.op (O.move rfl rfl) rfl rfl rfl ?_
    refine AO.op (O.sub rfl rfl rfl (by exact wI64 (by omega))) rfl rfl rfl ?_
    refine AO.op (O.call rfl Try.func50 rfl rfl rfl (parts_fn _ ⟨by omega, by omega⟩)) rfl rfl rfl ?_
    refine AO.op (O.move rfl rfl) rfl rfl rfl ?_
    refine AO.op (O.extract rfl rfl rfl) rfl rfl rfl ?_
    refine AO.op (O.extract rfl rfl rfl) rfl rfl rfl ?_
    refine AO.op (O.assign rfl rfl) rfl rfl rfl ?_
    refine AO.op (O.assign rfl rfl) rfl rfl rfl ?_
    refine AO.nil ?_
    refine AQ.thenN ?_
    refine AW.seq ?_
    refine AW.region ?_
    refine AO.op (O.fieldAddr rfl rfl) rfl rfl rfl ?_
    refine AO.op (O.load rfl rfl (by repeat (exact List.Mem.head _)) (by rfl)) rfl rfl rfl ?_
    refine AO.op (O.lenR rfl rfl) rfl rfl rfl ?_
    refine AO.op (O.call rfl Try.func50 rfl rfl rfl (parts_fn _ ⟨by omega, by omega⟩)) rfl rfl rfl ?_
    refine AO.op (O.move rfl rfl) rfl rfl rfl ?_
    refine AO.op (O.extract rfl rfl rfl) rfl rfl rfl ?_
    refine AO.op (O.extract rfl rfl rfl) rfl rfl rfl ?_
    refine AO.op (O.assign rfl rfl) rfl rfl rfl ?_
    refine AO.op (O.assign rfl rfl) rfl rfl rfl ?_
    refine AO.nil ?_
    refine AQ.thenN ?_
    refine AW.seq ?_
    refine AW.regionM [(0, false), (1, false), (2, false), (3, false), (4, false), (5, false), (7, false), (9, false), (11, false), (12, false), (6, true), (8, true), (10, true), (13, true), (14, true)] (by kernel_rfl) (by kernel_rfl) (by exact (by exact splitRow 3 1 rfl rfl splitNil)) ?_
    dsimp only [List.eraseIdx]
    refine AM.op rfl (O.move rfl rfl) rfl rfl rfl ?_
    refine AM.op rfl (O.move rfl rfl) rfl rfl rfl ?_
    refine AM.op rfl (O.shlK 4 16 rfl rfl rfl rfl (by rfl) (by exact wU8 (by omega))) rfl rfl rfl ?_
    refine AM.op rfl (O.move rfl rfl) rfl rfl rfl ?_
    refine AM.op rfl (O.or_ rfl rfl rfl (orU8 4 (m := 16) (by decide) (by omega) (by omega))) rfl rfl rfl ?_
    refine AM.op rfl (OpW.frz (O.buildSlice rfl rfl rfl (by rfl) (by rfl) (by rfl) (by rfl)) (by (unfold maxLen; omega))) rfl rfl rfl ?_
    refine AM.op rfl (O.move rfl rfl) rfl rfl rfl ?_
    refine AM.op rfl (O.move rfl rfl) rfl rfl rfl ?_
    refine AM.op rfl (O.fieldAddr rfl rfl) rfl rfl rfl ?_
    refine AM.op rfl (O.load rfl rfl (by repeat (exact List.Mem.head _)) (by rfl)) rfl rfl rfl ?_
    refine AM.main _ rfl (fun w0 R0 => ?_)
    (refine AO.append' (i := 0) rfl rfl rfl rfl (by rfl) (by rfl) rfl rfl rfl (by exact SrcA.ro TyD.ax (by rfl) (Nat.le_of_ble_eq_true rfl)) (by rfl) (by (unfold maxLen; omega)) (by omega) (by (dsimp only [List.set, List.append, List.cons_append, List.nil_append, roB_cells, roI_cells, roO_cells, splice, ofConst, AV.cells, List.map, List.map_cons, List.map_nil, List.take, List.drop, Nat.zero_add, Nat.add_zero, Nat.reduceAdd, Nat.reduceMul, Nat.zero_mul, Value.cells, List.toList_toArray, zerosA, List.replicate, List.flatten, List.append_nil]; done)) (fun _ => by (dsimp only [List.set]; done)) ?_)
    intro V5 hV5
    refine AM.ok ?_
    dsimp only [putE]
    refine AM.main _ rfl (fun w0 R0 => ?_)
    (refine AO.append' (i := 0) rfl rfl rfl rfl (by rfl) (by rfl) rfl rfl rfl (by exact SrcA.ro TyD.ax (by (simp; done)) (Nat.le_of_ble_eq_true rfl)) (by (simp [AV.cells, AV.one, *]; done)) (by (unfold maxLen; omega)) (by omega) (by (dsimp only [List.set, List.append, List.cons_append, List.nil_append, roB_cells, roI_cells, roO_cells, splice, ofConst, AV.cells, List.map, List.map_cons, List.map_nil, List.take, List.drop, Nat.zero_add, Nat.add_zero, Nat.reduceAdd, Nat.reduceMul, Nat.zero_mul, Value.cells, List.toList_toArray, zerosA, List.replicate, List.flatten, List.append_nil]; done)) (fun _ => by (dsimp only [List.set]; done)) ?_)
    intro V6 hV6
    refine AM.ok ?_
    dsimp only [putE]
    refine AM.main _ rfl (fun w0 R0 => ?_)
    (refine AO.append' (i := 0) rfl rfl rfl rfl (by rfl) (by rfl) rfl rfl rfl (by exact SrcA.ro TyD.ax (by (simp; done)) (Nat.le_of_ble_eq_true rfl)) (by (simp [AV.cells, AV.one, *]; done)) (by (unfold maxLen; omega)) (by omega) (by (dsimp only [List.set, List.append, List.cons_append, List.nil_append, roB_cells, roI_cells, roO_cells, splice, ofConst, AV.cells, List.map, List.map_cons, List.map_nil, List.take, List.drop, Nat.zero_add, Nat.add_zero, Nat.reduceAdd, Nat.reduceMul, Nat.zero_mul, Value.cells, List.toList_toArray, zerosA, List.replicate, List.flatten, List.append_nil]; done)) (fun _ => by (dsimp only [List.set]; done)) ?_)
    intro V7 hV7
    refine AM.ok ?_
    dsimp only [putE]
    refine AM.main _ rfl (fun w0 R0 => ?_)
    (refine AO.append' (i := 0) rfl rfl rfl rfl (by rfl) (by rfl) rfl rfl rfl (by exact SrcA.ro TyD.ax (by (simp; done)) (Nat.le_of_ble_eq_true rfl)) (by (simp [AV.cells, AV.one, *]; done)) (by (unfold maxLen; omega)) (by omega) (by (dsimp only [List.set, List.append, List.cons_append, List.nil_append, roB_cells, roI_cells, roO_cells, splice, ofConst, AV.cells, List.map, List.map_cons, List.map_nil, List.take, List.drop, Nat.zero_add, Nat.add_zero, Nat.reduceAdd, Nat.reduceMul, Nat.zero_mul, Value.cells, List.toList_toArray, zerosA, List.replicate, List.flatten, List.append_nil]; done)) (fun _ => by (dsimp only [List.set]; done)) ?_)
    intro V8 hV8
    refine AM.ok ?_
    dsimp only [putE]
    refine AM.main _ rfl (fun w0 R0 => ?_)
    refine AO.op (O.assign rfl rfl) rfl rfl rfl ?_
    refine AM.ok ?_
    dsimp only [putE]
    refine AM.nil ?_
    dsimp only [List.cons_append, List.nil_append]
    refine AQ.thenN ?_
    refine AW.region ?_
    refine AO.op (O.fieldAddr rfl rfl) rfl rfl rfl ?_
    refine AO.op (O.load rfl rfl (by repeat (first | exact List.Mem.head _ | refine List.Mem.tail _ ?_)) (by rfl)) rfl rfl rfl ?_
    refine AO.op (O.assign rfl rfl) rfl rfl rfl ?_
    refine AO.nil ?_
    refine AQ.blockN ?_
    refine AQ.thenN ?_
    refine AW.region ?_
    refine AO.op (O.add rfl rfl rfl (by exact wI64 (by omega))) rfl rfl rfl ?_
    refine AO.op (O.move rfl rfl) rfl rfl rfl ?_
    refine AO.nil ?_
    refine AQ.loopKN _ _ _ (by omega) (⟨k + 1, _, by omega, ‹_›, rfl, by rw [hlast], by rw [hsc, hsl]⟩) (by repeat (first | exact envNil | refine envCons rfl ?_)) (by repeat (first | exact envNil | refine envCons rfl ?_)) (by repeat (first | exact subPnil | refine subPcons 0 rfl ?_ | refine subPcons 1 rfl ?_))
  · skip
    obtain rfl : k = m.opts.length := by omega
    have hre : raw m = rawTo m m.opts.length ++ (if m.pay = [] then [] else 255 :: m.pay) := raw_end m
    refine AW.exit ?_
    refine AQ.thenX ?_
    refine AQ.loopX ?_
    refine AQ.blockX rfl ?_
    refine AQ.thenN ?_
    refine AW.seq ?_
    refine AW.seq ?_
    refine AW.region ?_
    refine AO.op (O.fieldAddr rfl rfl) rfl rfl rfl ?_
    refine AO.op (O.load rfl rfl (by repeat (first | exact List.Mem.head _ | refine List.Mem.tail _ ?_)) (by rfl)) rfl rfl rfl ?_
    refine AO.op (O.lenR rfl rfl) rfl rfl rfl ?_
    refine AO.op (O.gtr rfl rfl rfl (by rfl)) rfl rfl rfl ?_
    refine AO.nil ?_
    refine AQ.thenN ?_
    refine AW.split rfl (fun h5 => ?_) (fun h5 => ?_) <;> (try simp only [decide_eq_true_eq, decide_eq_false_iff_not, beq_iff_eq, beq_eq_false_iff_ne, bne_iff_ne, bne_eq_false_iff_eq, Bool.not_eq_true', Bool.not_eq_false', Bool.not_eq_true, Bool.not_eq_false, ne_eq, Int.not_lt, Int.not_le, Bool.and_eq_true, Bool.or_eq_true, Bool.or_eq_false_iff, Bool.and_eq_false_imp, strOf_toList, Decidable.not_not] at h5)
    · skip
      rw [if_neg (fun e => by rw [e] at h5; simp at h5)] at hre
      refine AW.regionM [(0, false), (1, false), (3, false), (4, false), (2, true), (5, true), (6, true)] (by kernel_rfl) (by kernel_rfl) (by exact (by exact splitRow 3 0 rfl rfl splitNil)) ?_
      dsimp only [List.eraseIdx]
      refine AM.op rfl (O.move rfl rfl) rfl rfl rfl ?_
      refine AM.op rfl (OpW.frz (O.buildSlice rfl rfl rfl (by rfl) (by rfl) (by rfl) (by rfl)) (by (unfold maxLen; omega))) rfl rfl rfl ?_
      refine AM.op rfl (O.fieldAddr rfl rfl) rfl rfl rfl ?_
      refine AM.op rfl (O.load rfl rfl (by repeat (exact List.Mem.head _)) (by rfl)) rfl rfl rfl ?_
      refine AM.main _ rfl (fun w0 R0 => ?_)
      (refine AO.append' (i := 0) rfl rfl rfl rfl (by rfl) (by rfl) rfl rfl rfl (by exact SrcA.ro TyD.ax (by rfl) (Nat.le_of_ble_eq_true rfl)) (by rfl) (by (unfold maxLen; omega)) (by omega) (by (dsimp only [List.set, List.append, List.cons_append, List.nil_append, roB_cells, roI_cells, roO_cells, splice, ofConst, AV.cells, List.map, List.map_cons, List.map_nil, List.take, List.drop, Nat.zero_add, Nat.add_zero, Nat.reduceAdd, Nat.reduceMul, Nat.zero_mul, Value.cells, List.toList_toArray, zerosA, List.replicate, List.flatten, List.append_nil]; done)) (fun _ => by (dsimp only [List.set]; done)) ?_)
      intro V9 hV9
      refine AM.ok ?_
      dsimp only [putE]
      refine AM.main _ rfl (fun w0 R0 => ?_)
      (refine AO.append' (i := 0) rfl rfl rfl rfl (by rfl) (by rfl) rfl rfl rfl (by exact SrcA.ro TyD.ax (by (simp; done)) (Nat.le_of_ble_eq_true rfl)) (by (simp [AV.cells, AV.one, *]; done)) (by (unfold maxLen; omega)) (by omega) (by (dsimp only [List.set, List.append, List.cons_append, List.nil_append, roB_cells, roI_cells, roO_cells, splice, ofConst, AV.cells, List.map, List.map_cons, List.map_nil, List.take, List.drop, Nat.zero_add, Nat.add_zero, Nat.reduceAdd, Nat.reduceMul, Nat.zero_mul, Value.cells, List.toList_toArray, zerosA, List.replicate, List.flatten, List.append_nil]; done)) (fun _ => by (dsimp only [List.set]; done)) ?_)
      intro V10 hV10
      refine AM.ok ?_
      dsimp only [putE]
      refine AM.main _ rfl (fun w0 R0 => ?_)
      refine AO.op (O.assign rfl rfl) rfl rfl rfl ?_
      refine AM.ok ?_
      dsimp only [putE]
      refine AM.nil ?_
      dsimp only [List.cons_append, List.nil_append]
      refine AQ.thenN ?_
      refine AW.seq ?_
      refine AW.region ?_
      refine AO.op (O.move rfl rfl) rfl rfl rfl ?_
      refine AO.op (O.assign rfl rfl) rfl rfl rfl ?_
      refine AO.nil ?_
      refine AQ.thenN ?_
      refine AW.ret ?_
      refine AQ.g ?_
      refine G.freezeRow 0 rfl [2] (by repeat (first | exact frNil | refine frCons rfl ?_)) ?_
      refine AQ.u ?_
      try dsimp only [List.map, List.eraseIdx, List.cons_append, List.nil_append]
      refine AQ.ret1 rfl rfl ⟨_, List.nil_sublist _, .nil⟩ (⟨roB_of (by rw [hre]; simp only [List.length_append, List.length_cons]; omega) (by rw [hre]; simp [bytesA]), rfl⟩)
    · skip
      rw [if_pos (List.eq_nil_of_length_eq_zero (by omega)), List.append_nil] at hre
      refine AW.skip ?_
      refine AQ.thenN ?_
      refine AW.seq ?_
      refine AW.region ?_
      refine AO.op (O.move rfl rfl) rfl rfl rfl ?_
      refine AO.op (O.assign rfl rfl) rfl rfl rfl ?_
      refine AO.nil ?_
      refine AQ.thenN ?_
      refine AW.ret ?_
      refine AQ.g ?_
      refine G.freezeRow 0 rfl [2] (by repeat (first | exact frNil | refine frCons rfl ?_)) ?_
      refine AQ.u ?_
      try dsimp only [List.map, List.eraseIdx, List.cons_append, List.nil_append]
      refine AQ.ret1 rfl rfl ⟨_, List.nil_sublist _, .nil⟩ (⟨by rw [hre]; rfl, rfl⟩)
end Go.Proofs.Ytiddmpmpjdnmeaa.By
