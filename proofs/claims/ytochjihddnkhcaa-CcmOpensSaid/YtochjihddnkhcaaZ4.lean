/-
  CcmEdges, the statement: for every input the law returns true, and its arguments read as before. No condition.
-/
import Derived.ChangeSame
import Derived.JoinedOf
import Derived.JoinedAt
import Derived.RowKit3
import Derived.ReadAgain
import Derived.Deep.Slices
import Derived.ChangeSlices
import Derived.Test.YtochjihddnkhcaaZ3
namespace Go.Proofs.Ytochjihddnkhcaa.By
open Go.RowKit L A
set_option linter.unusedVariables false
set_option linter.unusedSimpArgs false
attribute [local irreducible] AW AQ AO
attribute [local simp] arB_len
theorem blkF_hi {first : UInt8} {nonce : List UInt8} {n : Int} {q : Nat} (hq : nonce.length < q) (h8 : 7 < 15 - (q : Int)) (hn : 0 ≤ n ∧ n ≤ 9223372036854775807) : (0 : UInt8) = blkF first nonce n q := by
  rw [blkF, if_neg (by omega), if_neg (by omega)]
  have h1 : (256 : Int) ^ 8 ≤ 256 ^ (15 - q) := by
    obtain ⟨d, hd⟩ : ∃ d, 15 - q = 8 + d := ⟨15 - q - 8, by omega⟩
    rw [hd, Int.pow_add]
    have : (1 : Int) ≤ 256 ^ d := Int.pow_pos (by decide)
    have h2 : (0 : Int) ≤ 256 ^ 8 := by decide
    calc (256 : Int) ^ 8 = 256 ^ 8 * 1 := (Int.mul_one _).symm
      _ ≤ 256 ^ 8 * 256 ^ d := Int.mul_le_mul_of_nonneg_left this h2
  have h3 : n < 256 ^ (15 - q) := by
    have : (9223372036854775807 : Int) < 256 ^ 8 := by decide
    omega
  rw [Int.ediv_eq_zero_of_lt hn.1 h3]; rfl
theorem blkF_lo {first : UInt8} {nonce : List UInt8} {n : Int} {q : Nat} (hq : nonce.length < q) (hq2 : q ≤ 15) (h8 : 15 - (q : Int) ≤ 7) : u8 (n.fdiv (2 ^ min (8 * (15 - (q : Int))).toNat IntKind.i64.bits)) = blkF first nonce n q := by
  rw [blkF, if_neg (by omega), if_neg (by omega)]
  have e : ∃ i : Nat, i ≤ 7 ∧ 15 - q = i ∧ 15 - (q : Int) = i := ⟨15 - q, by omega, rfl, by omega⟩
  obtain ⟨i, hi, e1, e2⟩ := e
  rw [e1, e2]
  have e3 : min (8 * (i : Int)).toNat IntKind.i64.bits = 8 * i := by
    show min (8 * (i : Int)).toNat 64 = _
    omega
  rw [e3, Int.fdiv_eq_ediv_of_nonneg _ (Int.le_of_lt (Int.pow_pos (by decide))), Int.pow_mul]; rfl
set_option maxHeartbeats 4000000 in
theorem counted_fn (first : Int) (nonce : List UInt8) (n : Int) (hn13 : nonce.length ≤ 13) (hn : 0 ≤ n ∧ n ≤ 9223372036854775807) : Sp Try.prog 61 [.val (.int .i64 first), roB nonce, .val (.int .i64 n)] [] (Is (roB (fnB 16 (blkF (u8 first) nonce n)))) := by
  refine Sp.enter Try.func61 rfl _ Try.ntmps61 rfl (fun w0 R0 => ?_)
  refine AW.seq ?_
  refine AW.region ?_
  refine AO.op (O.assign rfl rfl) rfl rfl rfl ?_
  refine AO.nil ?_
  refine AQ.thenN ?_
  refine AW.seq ?_
  refine AW.region ?_
  refine AO.op (O.move rfl rfl) rfl rfl rfl ?_
  refine AO.op (O.conv rfl rfl wU8any) rfl rfl rfl ?_
  refine AO.opB (O.buildSlice rfl rfl rfl (by rfl) (by rfl) (by rfl) (by rfl)) rfl rfl rfl ?_
  intro B1
  refine AO.g ?_
  refine G.closeRow (b := B1) (n := 1) (cap := 1) 0 rfl rfl rfl (Nat.le_refl _) (by (unfold maxLen; omega)) ?_
  refine AO.u ?_
  dsimp only [List.set]
  refine AO.op (O.move rfl rfl) rfl rfl rfl ?_
  (refine AO.append' (i := 0) rfl rfl rfl rfl (by rfl) (by rfl) rfl rfl rfl (by exact SrcA.ro TyD.ax (by (simp; done)) (Nat.le_of_ble_eq_true rfl)) (by (simp [AV.cells, AV.one, *]; done)) (by (unfold maxLen; omega)) (by omega) (by (dsimp only [List.set, List.append, List.cons_append, List.nil_append, splice, ofConst, AV.cells, List.map, List.map_cons, List.map_nil, List.take, List.drop, Nat.zero_add, Nat.add_zero, Nat.reduceAdd, Nat.reduceMul, Nat.zero_mul, Value.cells, List.toList_toArray, zerosA, List.replicate, List.flatten, List.append_nil]; done)) (fun _ => by (dsimp only [List.set]; done)) ?_)
  intro V2 hV2
  refine AO.op (O.assign rfl rfl) rfl rfl rfl ?_
  refine AO.nil ?_
  refine AQ.thenN ?_
  refine AW.seq ?_
  refine AW.seq ?_
  refine AW.region ?_
  refine AO.op (O.move rfl rfl) rfl rfl rfl ?_
  refine AO.op (O.lenR rfl rfl) rfl rfl rfl ?_
  refine AO.op (O.sub rfl rfl rfl (by exact wI64 (by omega))) rfl rfl rfl ?_
  refine AO.op (O.assign rfl rfl) rfl rfl rfl ?_
  refine AO.nil ?_
  refine AQ.thenN ?_
  refine AW.block ?_
  obtain ⟨L, hL⟩ : ∃ L, L = nonce.length := ⟨_, rfl⟩
  rw [← hL] at hn13
  have e0 : AV.val (.int .u8 ((u8 first).toNat : Int)) :: bytesA nonce = arB (1 + L) (blkF (u8 first) nonce n) := by
    rw [hL, arB_kf]
    show arB 1 (fun _ => u8 first) ++ arB nonce.length (kf nonce) = _
    rw [arB_app]
    exact arB_congr fun q hq => by
      by_cases h : q < 1
      · rw [if_pos h, blkF, if_pos (by omega)]
      · rw [if_neg h, blkF, if_neg (by omega), if_pos (by omega)]
  have ez : nonce.length = L := hL.symm
  have ey : 14 - (L : Int) = 15 - ((1 + L : Nat) : Int) := by omega
  rw [ez, e0, ey]
  refine AW.loopK [(2, _)] (fun nn E H => ∃ (q : Nat) (V : Value), (1 + L ≤ q ∧ q ≤ 16) ∧ (V.oneCell' = true) ∧ nn = 16 - q ∧ E = [(7, .val V), (8, .val (.int .i64 (15 - (q : Int))))] ∧ H = [.row V 5 1 q (arB q (blkF (u8 first) nonce n))]) _ (⟨1 + L, V2, by omega, hV2, rfl, rfl, rfl⟩) (by repeat (first | exact envNil | refine envCons rfl ?_)) (by repeat (first | exact envNil | refine envCons rfl ?_)) (by repeat (first | exact subPnil | refine subPcons 0 rfl ?_)) ?_
  rintro nn E H ⟨q, V, hq, hV, rfl, rfl, rfl⟩
  dsimp only [List.cons_append, List.nil_append]
  have ex : 15 - (q : Int) - 1 = 15 - ((q + 1 : Nat) : Int) := by omega
  refine AW.seq ?_
  refine AW.seq ?_
  refine AW.region ?_
  refine AO.op (O.move rfl rfl) rfl rfl rfl ?_
  refine AO.op (O.geq rfl rfl rfl (by rfl)) rfl rfl rfl ?_
  refine AO.nil ?_
  refine AQ.thenN ?_
  refine AW.split rfl (fun h => ?_) (fun h => ?_) <;> (try simp only [decide_eq_true_eq, decide_eq_false_iff_not, beq_iff_eq, beq_eq_false_iff_ne, bne_iff_ne, bne_eq_false_iff_eq, Bool.not_eq_true', Bool.not_eq_false', Bool.not_eq_true, Bool.not_eq_false, ne_eq, Int.not_lt, Int.not_le, Bool.and_eq_true, Bool.or_eq_true, Bool.or_eq_false_iff, Bool.and_eq_false_imp, strOf_toList, Decidable.not_not] at h)
  · skip
    have hq' : q < 16 := by omega
    refine AW.skip ?_
    refine AQ.thenN ?_
    refine AW.seq ?_
    refine AW.block ?_
    refine AW.seq ?_
    refine AW.seq ?_
    refine AW.region ?_
    refine AO.op (O.move rfl rfl) rfl rfl rfl ?_
    refine AO.op (O.gtr rfl rfl rfl (by rfl)) rfl rfl rfl ?_
    refine AO.nil ?_
    refine AQ.thenN ?_
    refine AW.split rfl (fun h2 => ?_) (fun h2 => ?_) <;> (try simp only [decide_eq_true_eq, decide_eq_false_iff_not, beq_iff_eq, beq_eq_false_iff_ne, bne_iff_ne, bne_eq_false_iff_eq, Bool.not_eq_true', Bool.not_eq_false', Bool.not_eq_true, Bool.not_eq_false, ne_eq, Int.not_lt, Int.not_le, Bool.and_eq_true, Bool.or_eq_true, Bool.or_eq_false_iff, Bool.and_eq_false_imp, strOf_toList, Decidable.not_not] at h2)
    · skip
      refine AW.seq ?_
      refine AW.region ?_
      refine AO.op (O.move rfl rfl) rfl rfl rfl ?_
      refine AO.opB (O.buildSlice rfl rfl rfl (by rfl) (by rfl) (by rfl) (by rfl)) rfl rfl rfl ?_
      intro B3
      refine AO.g ?_
      (refine G.freezeSl 0 24 rfl rfl ⟨Nat.le_refl _, by unfold maxLen; omega⟩ ?_)
      refine G.unfull 24 rfl ?_
      refine AO.u ?_
      dsimp only [List.eraseIdx]
      (refine AO.append' (i := 0) rfl rfl rfl rfl (by rfl) (by rfl) rfl rfl rfl (by exact SrcA.ro TyD.ax (by rfl) (Nat.le_of_ble_eq_true rfl)) (by rfl) (by (unfold maxLen; omega)) (by omega) (by (dsimp only [List.set, List.append, List.cons_append, List.nil_append, splice, ofConst, AV.cells, List.map, List.map_cons, List.map_nil, List.take, List.drop, Nat.zero_add, Nat.add_zero, Nat.reduceAdd, Nat.reduceMul, Nat.zero_mul, Value.cells, List.toList_toArray, zerosA, List.replicate, List.flatten, List.append_nil]; done)) (fun _ => by (dsimp only [List.set]; done)) ?_)
      intro V4 hV4
      refine AO.op (O.assign rfl rfl) rfl rfl rfl ?_
      refine AO.nil ?_
      refine AQ.thenN ?_
      refine AW.exit ?_
      refine AQ.thenX ?_
      refine AQ.blockX rfl ?_
      refine AQ.thenN ?_
      refine AW.region ?_
      refine AO.op (O.move rfl rfl) rfl rfl rfl ?_
      refine AO.op (O.sub rfl rfl rfl (by exact wI64 (by omega))) rfl rfl rfl ?_
      refine AO.op (O.assign rfl rfl) rfl rfl rfl ?_
      refine AO.nil ?_
      rw [show arB q (blkF (u8 first) nonce n) ++ [AV.val (.int .u8 0)] = arB (q + 1) (blkF (u8 first) nonce n) from arB_snoc (blkF_hi (by omega) h2 hn), ex]
      refine AQ.loopKN _ _ _ (by omega) (⟨q + 1, V4, by omega, hV4, rfl, rfl, rfl⟩) (by repeat (first | exact envNil | refine envCons rfl ?_)) (by repeat (first | exact envNil | refine envCons rfl ?_)) (by repeat (first | exact subPnil | refine subPcons 0 rfl ?_))
    · skip
      refine AW.skip ?_
      refine AQ.thenN ?_
      refine AW.region ?_
      refine AO.op (O.move rfl rfl) rfl rfl rfl ?_
      refine AO.op (O.move rfl rfl) rfl rfl rfl ?_
      refine AO.op (O.move rfl rfl) rfl rfl rfl ?_
      refine AO.op (O.conv rfl rfl (by exact wU64 (by omega))) rfl rfl rfl ?_
      refine AO.op (O.mul rfl rfl rfl (by exact wU64 (by omega))) rfl rfl rfl ?_
      refine AO.op (O.shr rfl rfl rfl (by omega) rfl) rfl rfl rfl ?_
      refine AO.op (O.conv rfl rfl wU8any) rfl rfl rfl ?_
      refine AO.opB (O.buildSlice rfl rfl rfl (by rfl) (by rfl) (by rfl) (by rfl)) rfl rfl rfl ?_
      intro B5
      refine AO.g ?_
      (refine G.freezeSl 0 33 rfl rfl ⟨Nat.le_refl _, by unfold maxLen; omega⟩ ?_)
      refine G.unfull 33 rfl ?_
      refine AO.u ?_
      dsimp only [List.eraseIdx]
      (refine AO.append' (i := 0) rfl rfl rfl rfl (by rfl) (by rfl) rfl rfl rfl (by exact SrcA.ro TyD.ax (by rfl) (Nat.le_of_ble_eq_true rfl)) (by rfl) (by (unfold maxLen; omega)) (by omega) (by (dsimp only [List.set, List.append, List.cons_append, List.nil_append, splice, ofConst, AV.cells, List.map, List.map_cons, List.map_nil, List.take, List.drop, Nat.zero_add, Nat.add_zero, Nat.reduceAdd, Nat.reduceMul, Nat.zero_mul, Value.cells, List.toList_toArray, zerosA, List.replicate, List.flatten, List.append_nil]; done)) (fun _ => by (dsimp only [List.set]; done)) ?_)
      intro V6 hV6
      refine AO.op (O.assign rfl rfl) rfl rfl rfl ?_
      refine AO.nil ?_
      refine AQ.blockN ?_
      refine AQ.thenN ?_
      refine AW.region ?_
      refine AO.op (O.move rfl rfl) rfl rfl rfl ?_
      refine AO.op (O.sub rfl rfl rfl (by exact wI64 (by omega))) rfl rfl rfl ?_
      refine AO.op (O.assign rfl rfl) rfl rfl rfl ?_
      refine AO.nil ?_
      rw [show arB q (blkF (u8 first) nonce n) ++ [AV.val (.int .u8 ((u8 (n.fdiv (2 ^ min (8 * (15 - (q : Int))).toNat IntKind.i64.bits))).toNat : Int))] = arB (q + 1) (blkF (u8 first) nonce n) from arB_snoc (blkF_lo (by omega) (by omega) h2), ex]
      refine AQ.loopKN _ _ _ (by omega) (⟨q + 1, V6, by omega, hV6, rfl, rfl, rfl⟩) (by repeat (first | exact envNil | refine envCons rfl ?_)) (by repeat (first | exact envNil | refine envCons rfl ?_)) (by repeat (first | exact subPnil | refine subPcons 0 rfl ?_))
  · skip
    obtain rfl : q = 16 := by omega
    refine AW.exit ?_
    refine AQ.thenX ?_
    refine AQ.loopX ?_
    refine AQ.blockX rfl ?_
    refine AQ.thenN ?_
    refine AW.seq ?_
    refine AW.region ?_
    refine AO.op (O.move rfl rfl) rfl rfl rfl ?_
    refine AO.op (O.assign rfl rfl) rfl rfl rfl ?_
    refine AO.nil ?_
    refine AQ.thenN ?_
    refine AW.ret ?_
    refine AQ.g ?_
    refine G.freezeRow 0 rfl [6] (by repeat (first | exact frNil | refine frCons rfl ?_)) ?_
    refine AQ.u ?_
    try dsimp only [List.map, List.eraseIdx, List.cons_append, List.nil_append]
    refine AQ.g ?_
    refine G.re 6 (roB (fnB 16 (blkF (u8 first) nonce n))) (congrArg some (roB_fnB _ _).symm) ?_
    refine AQ.u ?_
    refine AQ.ret1 rfl rfl ⟨_, List.nil_sublist _, .nil⟩ (⟨rfl, rfl⟩)
set_option maxHeartbeats 4000000 in
theorem countedR_fn (first : Int) (nonce : List UInt8) (n : Int) (hn13 : nonce.length ≤ 13) (hn : 0 ≤ n ∧ n ≤ 9223372036854775807) : Sp Try.prog 61 [.val (.int .i64 first), roB nonce, .val (.int .i64 n)] [] (NewRow 5 1 16 (arB 16 (blkF (u8 first) nonce n))) := by
  refine Sp.enter Try.func61 rfl _ Try.ntmps61 rfl (fun w0 R0 => ?_)
  refine AW.seq ?_
  refine AW.region ?_
  refine AO.op (O.assign rfl rfl) rfl rfl rfl ?_
  refine AO.nil ?_
  refine AQ.thenN ?_
  refine AW.seq ?_
  refine AW.region ?_
  refine AO.op (O.move rfl rfl) rfl rfl rfl ?_
  refine AO.op (O.conv rfl rfl wU8any) rfl rfl rfl ?_
  refine AO.opB (O.buildSlice rfl rfl rfl (by rfl) (by rfl) (by rfl) (by rfl)) rfl rfl rfl ?_
  intro B1
  refine AO.g ?_
  refine G.closeRow (b := B1) (n := 1) (cap := 1) 0 rfl rfl rfl (Nat.le_refl _) (by (unfold maxLen; omega)) ?_
  refine AO.u ?_
  dsimp only [List.set]
  refine AO.op (O.move rfl rfl) rfl rfl rfl ?_
  (refine AO.append' (i := 0) rfl rfl rfl rfl (by rfl) (by rfl) rfl rfl rfl (by exact SrcA.ro TyD.ax (by (simp; done)) (Nat.le_of_ble_eq_true rfl)) (by (simp [AV.cells, AV.one, *]; done)) (by (unfold maxLen; omega)) (by omega) (by (dsimp only [List.set, List.append, List.cons_append, List.nil_append, splice, ofConst, AV.cells, List.map, List.map_cons, List.map_nil, List.take, List.drop, Nat.zero_add, Nat.add_zero, Nat.reduceAdd, Nat.reduceMul, Nat.zero_mul, Value.cells, List.toList_toArray, zerosA, List.replicate, List.flatten, List.append_nil]; done)) (fun _ => by (dsimp only [List.set]; done)) ?_)
  intro V2 hV2
  refine AO.op (O.assign rfl rfl) rfl rfl rfl ?_
  refine AO.nil ?_
  refine AQ.thenN ?_
  refine AW.seq ?_
  refine AW.seq ?_
  refine AW.region ?_
  refine AO.op (O.move rfl rfl) rfl rfl rfl ?_
  refine AO.op (O.lenR rfl rfl) rfl rfl rfl ?_
  refine AO.op (O.sub rfl rfl rfl (by exact wI64 (by omega))) rfl rfl rfl ?_
  refine AO.op (O.assign rfl rfl) rfl rfl rfl ?_
  refine AO.nil ?_
  refine AQ.thenN ?_
  refine AW.block ?_
  obtain ⟨L, hL⟩ : ∃ L, L = nonce.length := ⟨_, rfl⟩
  rw [← hL] at hn13
  have e0 : AV.val (.int .u8 ((u8 first).toNat : Int)) :: bytesA nonce = arB (1 + L) (blkF (u8 first) nonce n) := by
    rw [hL, arB_kf]
    show arB 1 (fun _ => u8 first) ++ arB nonce.length (kf nonce) = _
    rw [arB_app]
    exact arB_congr fun q hq => by
      by_cases h : q < 1
      · rw [if_pos h, blkF, if_pos (by omega)]
      · rw [if_neg h, blkF, if_neg (by omega), if_pos (by omega)]
  have ez : nonce.length = L := hL.symm
  have ey : 14 - (L : Int) = 15 - ((1 + L : Nat) : Int) := by omega
  rw [ez, e0, ey]
  refine AW.loopK [(2, _)] (fun nn E H => ∃ (q : Nat) (V : Value), (1 + L ≤ q ∧ q ≤ 16) ∧ (V.oneCell' = true) ∧ nn = 16 - q ∧ E = [(7, .val V), (8, .val (.int .i64 (15 - (q : Int))))] ∧ H = [.row V 5 1 q (arB q (blkF (u8 first) nonce n))]) _ (⟨1 + L, V2, by omega, hV2, rfl, rfl, rfl⟩) (by repeat (first | exact envNil | refine envCons rfl ?_)) (by repeat (first | exact envNil | refine envCons rfl ?_)) (by repeat (first | exact subPnil | refine subPcons 0 rfl ?_)) ?_
  rintro nn E H ⟨q, V, hq, hV, rfl, rfl, rfl⟩
  dsimp only [List.cons_append, List.nil_append]
  have ex : 15 - (q : Int) - 1 = 15 - ((q + 1 : Nat) : Int) := by omega
  refine AW.seq ?_
  refine AW.seq ?_
  refine AW.region ?_
  refine AO.op (O.move rfl rfl) rfl rfl rfl ?_
  refine AO.op (O.geq rfl rfl rfl (by rfl)) rfl rfl rfl ?_
  refine AO.nil ?_
  refine AQ.thenN ?_
  refine AW.split rfl (fun h => ?_) (fun h => ?_) <;> (try simp only [decide_eq_true_eq, decide_eq_false_iff_not, beq_iff_eq, beq_eq_false_iff_ne, bne_iff_ne, bne_eq_false_iff_eq, Bool.not_eq_true', Bool.not_eq_false', Bool.not_eq_true, Bool.not_eq_false, ne_eq, Int.not_lt, Int.not_le, Bool.and_eq_true, Bool.or_eq_true, Bool.or_eq_false_iff, Bool.and_eq_false_imp, strOf_toList, Decidable.not_not] at h)
  · skip
    have hq' : q < 16 := by omega
    refine AW.skip ?_
    refine AQ.thenN ?_
    refine AW.seq ?_
    refine AW.block ?_
    refine AW.seq ?_
    refine AW.seq ?_
    refine AW.region ?_
    refine AO.op (O.move rfl rfl) rfl rfl rfl ?_
    refine AO.op (O.gtr rfl rfl rfl (by rfl)) rfl rfl rfl ?_
    refine AO.nil ?_
    refine AQ.thenN ?_
    refine AW.split rfl (fun h2 => ?_) (fun h2 => ?_) <;> (try simp only [decide_eq_true_eq, decide_eq_false_iff_not, beq_iff_eq, beq_eq_false_iff_ne, bne_iff_ne, bne_eq_false_iff_eq, Bool.not_eq_true', Bool.not_eq_false', Bool.not_eq_true, Bool.not_eq_false, ne_eq, Int.not_lt, Int.not_le, Bool.and_eq_true, Bool.or_eq_true, Bool.or_eq_false_iff, Bool.and_eq_false_imp, strOf_toList, Decidable.not_not] at h2)
    · skip
      refine AW.seq ?_
      refine AW.region ?_
      refine AO.op (O.move rfl rfl) rfl rfl rfl ?_
      refine AO.opB (O.buildSlice rfl rfl rfl (by rfl) (by rfl) (by rfl) (by rfl)) rfl rfl rfl ?_
      intro B3
      refine AO.g ?_
      (refine G.freezeSl 0 24 rfl rfl ⟨Nat.le_refl _, by unfold maxLen; omega⟩ ?_)
      refine G.unfull 24 rfl ?_
      refine AO.u ?_
      dsimp only [List.eraseIdx]
      (refine AO.append' (i := 0) rfl rfl rfl rfl (by rfl) (by rfl) rfl rfl rfl (by exact SrcA.ro TyD.ax (by rfl) (Nat.le_of_ble_eq_true rfl)) (by rfl) (by (unfold maxLen; omega)) (by omega) (by (dsimp only [List.set, List.append, List.cons_append, List.nil_append, splice, ofConst, AV.cells, List.map, List.map_cons, List.map_nil, List.take, List.drop, Nat.zero_add, Nat.add_zero, Nat.reduceAdd, Nat.reduceMul, Nat.zero_mul, Value.cells, List.toList_toArray, zerosA, List.replicate, List.flatten, List.append_nil]; done)) (fun _ => by (dsimp only [List.set]; done)) ?_)
      intro V4 hV4
      refine AO.op (O.assign rfl rfl) rfl rfl rfl ?_
      refine AO.nil ?_
      refine AQ.thenN ?_
      refine AW.exit ?_
      refine AQ.thenX ?_
      refine AQ.blockX rfl ?_
      refine AQ.thenN ?_
      refine AW.region ?_
      refine AO.op (O.move rfl rfl) rfl rfl rfl ?_
      refine AO.op (O.sub rfl rfl rfl (by exact wI64 (by omega))) rfl rfl rfl ?_
      refine AO.op (O.assign rfl rfl) rfl rfl rfl ?_
      refine AO.nil ?_
      rw [show arB q (blkF (u8 first) nonce n) ++ [AV.val (.int .u8 0)] = arB (q + 1) (blkF (u8 first) nonce n) from arB_snoc (blkF_hi (by omega) h2 hn), ex]
      refine AQ.loopKN _ _ _ (by omega) (⟨q + 1, V4, by omega, hV4, rfl, rfl, rfl⟩) (by repeat (first | exact envNil | refine envCons rfl ?_)) (by repeat (first | exact envNil | refine envCons rfl ?_)) (by repeat (first | exact subPnil | refine subPcons 0 rfl ?_))
    · skip
      refine AW.skip ?_
      refine AQ.thenN ?_
      refine AW.region ?_
      refine AO.op (O.move rfl rfl) rfl rfl rfl ?_
      refine AO.op (O.move rfl rfl) rfl rfl rfl ?_
      refine AO.op (O.move rfl rfl) rfl rfl rfl ?_
      refine AO.op (O.conv rfl rfl (by exact wU64 (by omega))) rfl rfl rfl ?_
      refine AO.op (O.mul rfl rfl rfl (by exact wU64 (by omega))) rfl rfl rfl ?_
      refine AO.op (O.shr rfl rfl rfl (by omega) rfl) rfl rfl rfl ?_
      refine AO.op (O.conv rfl rfl wU8any) rfl rfl rfl ?_
      refine AO.opB (O.buildSlice rfl rfl rfl (by rfl) (by rfl) (by rfl) (by rfl)) rfl rfl rfl ?_
      intro B5
      refine AO.g ?_
      (refine G.freezeSl 0 33 rfl rfl ⟨Nat.le_refl _, by unfold maxLen; omega⟩ ?_)
      refine G.unfull 33 rfl ?_
      refine AO.u ?_
      dsimp only [List.eraseIdx]
      (refine AO.append' (i := 0) rfl rfl rfl rfl (by rfl) (by rfl) rfl rfl rfl (by exact SrcA.ro TyD.ax (by rfl) (Nat.le_of_ble_eq_true rfl)) (by rfl) (by (unfold maxLen; omega)) (by omega) (by (dsimp only [List.set, List.append, List.cons_append, List.nil_append, splice, ofConst, AV.cells, List.map, List.map_cons, List.map_nil, List.take, List.drop, Nat.zero_add, Nat.add_zero, Nat.reduceAdd, Nat.reduceMul, Nat.zero_mul, Value.cells, List.toList_toArray, zerosA, List.replicate, List.flatten, List.append_nil]; done)) (fun _ => by (dsimp only [List.set]; done)) ?_)
      intro V6 hV6
      refine AO.op (O.assign rfl rfl) rfl rfl rfl ?_
      refine AO.nil ?_
      refine AQ.blockN ?_
      refine AQ.thenN ?_
      refine AW.region ?_
      refine AO.op (O.move rfl rfl) rfl rfl rfl ?_
      refine AO.op (O.sub rfl rfl rfl (by exact wI64 (by omega))) rfl rfl rfl ?_
      refine AO.op (O.assign rfl rfl) rfl rfl rfl ?_
      refine AO.nil ?_
      rw [show arB q (blkF (u8 first) nonce n) ++ [AV.val (.int .u8 ((u8 (n.fdiv (2 ^ min (8 * (15 - (q : Int))).toNat IntKind.i64.bits))).toNat : Int))] = arB (q + 1) (blkF (u8 first) nonce n) from arB_snoc (blkF_lo (by omega) (by omega) h2), ex]
      refine AQ.loopKN _ _ _ (by omega) (⟨q + 1, V6, by omega, hV6, rfl, rfl, rfl⟩) (by repeat (first | exact envNil | refine envCons rfl ?_)) (by repeat (first | exact envNil | refine envCons rfl ?_)) (by repeat (first | exact subPnil | refine subPcons 0 rfl ?_))
  · skip
    obtain rfl : q = 16 := by omega
    refine AW.exit ?_
    refine AQ.thenX ?_
    refine AQ.loopX ?_
    refine AQ.blockX rfl ?_
    refine AQ.thenN ?_
    refine AW.seq ?_
    refine AW.region ?_
    refine AO.op (O.move rfl rfl) rfl rfl rfl ?_
    refine AO.op (O.assign rfl rfl) rfl rfl rfl ?_
    refine AO.nil ?_
    refine AQ.thenN ?_
    refine AW.ret ?_
    refine AQ.ret1 rfl rfl ⟨_, by repeat (first | exact List.Sublist.slnil | refine List.Sublist.cons_cons _ ?_), List.Perm.refl _⟩ (⟨_, rfl, hV, rfl⟩)
def padN (n : Nat) : Nat := (n + 15) / 16 * 16
theorem padded_fn (b : List UInt8) (hl : b.length ≤ 1000000) : Sp Try.prog 62 [roB b] [] (Is (roB (fnB (padN b.length) (kf b)))) := by
  refine Sp.enter Try.func62 rfl _ Try.ntmps62 rfl (fun w0 R0 => ?_)
  refine AW.seq ?_
  refine AW.region ?_
  refine AO.op (O.assign rfl rfl) rfl rfl rfl ?_
  refine AO.nil ?_
  refine AQ.thenN ?_
  refine AW.seq ?_
  refine AW.region ?_
  refine AO.op (O.move rfl rfl) rfl rfl rfl ?_
  refine AO.opRow (O.appendNil rfl (by rfl) (by rfl) rfl rfl (by exact SrcA.ro TyD.ax (by (simp; done)) (Nat.le_of_ble_eq_true rfl)) (by (simp [AV.cells, AV.one, *]; done)) (by (unfold maxLen; omega)) (by omega)) rfl rfl rfl ?_
  intro V1 hV1
  refine AO.op (O.assign rfl rfl) rfl rfl rfl ?_
  refine AO.nil ?_
  refine AQ.thenN ?_
  refine AW.seq ?_
  refine AW.block ?_
  rw [arB_kf]
  refine AW.loopK [] (fun nn E H => ∃ (m : Nat) (V : Value), (b.length ≤ m ∧ m ≤ padN b.length) ∧ (V.oneCell' = true) ∧ nn = padN b.length - m ∧ E = [(3, .val V)] ∧ H = [.row V 5 1 m (arB m (kf b))]) _ (⟨b.length, V1, ⟨Nat.le_refl _, by unfold padN; omega⟩, hV1, rfl, rfl, rfl⟩) (by repeat (exact envNil)) (by repeat (first | exact envNil | refine envCons rfl ?_)) (by repeat (first | exact subPnil | refine subPcons 0 rfl ?_)) ?_
  rintro nn E H ⟨m, V, hm, hV, rfl, rfl, rfl⟩
  dsimp only [List.cons_append, List.nil_append]
  have hpn : padN b.length = (b.length + 15) / 16 * 16 := rfl
  refine AW.seq ?_
  refine AW.seq ?_
  refine AW.region ?_
  refine AO.op (O.move rfl rfl) rfl rfl rfl ?_
  refine AO.op (O.lenRow rfl rfl (by repeat (exact List.Mem.head _))) rfl rfl rfl ?_
  refine AO.op (O.rem rfl rfl rfl (by omega) (tmodE (by omega))) rfl rfl rfl ?_
  refine AO.op (O.neq rfl rfl rfl (by rfl)) rfl rfl rfl ?_
  refine AO.nil ?_
  refine AQ.thenN ?_
  refine AW.split rfl (fun h => ?_) (fun h => ?_) <;> (try simp only [decide_eq_true_eq, decide_eq_false_iff_not, beq_iff_eq, beq_eq_false_iff_ne, bne_iff_ne, bne_eq_false_iff_eq, Bool.not_eq_true', Bool.not_eq_false', Bool.not_eq_true, Bool.not_eq_false, ne_eq, Int.not_lt, Int.not_le, Bool.and_eq_true, Bool.or_eq_true, Bool.or_eq_false_iff, Bool.and_eq_false_imp, strOf_toList, Decidable.not_not] at h)
  · skip
    have hm' : m < padN b.length := by omega
    refine AW.skip ?_
    refine AQ.thenN ?_
    refine AW.block ?_
    refine AW.region ?_
    refine AO.op (O.move rfl rfl) rfl rfl rfl ?_
    refine AO.opB (O.buildSlice rfl rfl rfl (by rfl) (by rfl) (by rfl) (by rfl)) rfl rfl rfl ?_
    intro B2
    refine AO.g ?_
    (refine G.freezeSl 0 11 rfl rfl ⟨Nat.le_refl _, by unfold maxLen; omega⟩ ?_)
    refine G.unfull 11 rfl ?_
    refine AO.u ?_
    dsimp only [List.eraseIdx]
    (refine AO.append' (i := 0) rfl rfl rfl rfl (by rfl) (by rfl) rfl rfl rfl (by exact SrcA.ro TyD.ax (by rfl) (Nat.le_of_ble_eq_true rfl)) (by rfl) (by (unfold maxLen; omega)) (by omega) (by (dsimp only [List.set, List.append, List.cons_append, List.nil_append, splice, ofConst, AV.cells, List.map, List.map_cons, List.map_nil, List.take, List.drop, Nat.zero_add, Nat.add_zero, Nat.reduceAdd, Nat.reduceMul, Nat.zero_mul, Value.cells, List.toList_toArray, zerosA, List.replicate, List.flatten, List.append_nil]; done)) (fun _ => by (dsimp only [List.set]; done)) ?_)
    intro V3 hV3
    refine AO.op (O.assign rfl rfl) rfl rfl rfl ?_
    refine AO.nil ?_
    refine AQ.blockN ?_
    rw [show arB m (kf b) ++ [AV.val (.int .u8 0)] = arB (m + 1) (kf b) from arB_snoc (kf_drop b hm.1).symm]
    refine AQ.loopKN _ _ _ (by omega) (⟨m + 1, V3, by omega, hV3, rfl, rfl, rfl⟩) (by repeat (exact envNil)) (by repeat (first | exact envNil | refine envCons rfl ?_)) (by repeat (first | exact subPnil | refine subPcons 0 rfl ?_))
  · skip
    have hm' : m = padN b.length := by omega
    subst hm'
    refine AW.exit ?_
    refine AQ.thenX ?_
    refine AQ.loopX ?_
    refine AQ.blockX rfl ?_
    refine AQ.thenN ?_
    refine AW.seq ?_
    refine AW.region ?_
    refine AO.op (O.move rfl rfl) rfl rfl rfl ?_
    refine AO.op (O.assign rfl rfl) rfl rfl rfl ?_
    refine AO.nil ?_
    refine AQ.thenN ?_
    refine AW.ret ?_
    refine AQ.g ?_
    refine G.freezeRow 0 rfl [2] (by repeat (first | exact frNil | refine frCons rfl ?_)) ?_
    refine AQ.u ?_
    try dsimp only [List.map, List.eraseIdx, List.cons_append, List.nil_append]
    refine AQ.g ?_
    refine G.re 2 (roB (fnB (padN b.length) (kf b))) (congrArg some (roB_fnB _ _).symm) ?_
    refine AQ.u ?_
    refine AQ.ret1 rfl rfl ⟨_, List.nil_sublist _, .nil⟩ (⟨rfl, rfl⟩)
end Go.Proofs.Ytochjihddnkhcaa.By

namespace Go.Proofs.Ytochjihddnkhcaa.A
open Go.RowKit L
section
variable {Γ : Cx} {P : Program} {E : Env} {H : List HE} {N : Nat} {o : Oper}
theorem RelV.plain {R R' : Nat → Prop} {W W' : World} {x : AV} {u : Value} (hx : ∃ c, x = .val c) (h : RelV R W x u) : RelV R' W' x u := by
  obtain ⟨c, rfl⟩ := hx
  rw [h.val_inv]; exact .val _
theorem RelV.plainT {R R' : Nat → Prop} {W W' : World} {xs : List AV} {u : Value} (hx : ∀ x ∈ xs, ∃ c, x = AV.val c) (h : RelV R W (.tup xs) u) : RelV R' W' (.tup xs) u := by
  cases h with
  | tup _ cs hs hc => exact .tup xs cs hs fun j hj => (hc j hj).plain (hx _ (List.getElem_mem hj))
theorem HE.plainRow {R R' : Nat → Prop} {W : World} {v : Value} {T sz n : Nat} {xs : List AV} (hx : ∀ x ∈ xs, ∃ c, x = AV.val c) (h : HE.ok R W (.row v T sz n xs)) : HE.ok R' W (.row v T sz n xs) := by
  obtain ⟨us, ho, hl, hr⟩ := h
  exact ⟨us, ho, hl, fun j hj => (hr j hj).plain (hx _ (List.getElem_mem hj))⟩
theorem vals_arB (n : Nat) (f : Nat → UInt8) : ∀ x ∈ arB n f, ∃ c, x = AV.val c := fun x hx => by
  rw [arB_eq] at hx
  obtain ⟨q, _, rfl⟩ := List.mem_map.1 hx
  exact ⟨_, rfl⟩
def PlainP (Post : AV → List HE → Prop) : Prop := ∀ r Hn, Post r Hn → (∀ (R R' : Nat → Prop) W u, RelV R W r u → RelV R' W r u) ∧ ∀ e ∈ Hn, ∀ (R R' : Nat → Prop) W, HE.ok R W e → HE.ok R' W e
theorem O.callLP {f : FuncId} {xs : List Operand} {ats : Array TypeId} {args args' : List AV} {v : Value} {T sz n : Nat} {rs : List AV} {fn : Func} {Post : AV → List HE → Prop} (ho : o.op = .call { callee := .value (.func f), args := xs.toArray, argTypes := ats }) (hfn : P.funcs[f]? = some fn) (hn : (fn.name == "runtime.NumGoroutine") = false) (hb : fn.body.isNone = false)
    (hx : evs E xs = some args) (hm : HE.row v T sz n rs ∈ H) (h : Sp P f args' [] Post) (hp : PlainP Post) (hl : LendL v (.ro false n rs) args args') : OpW P N o E H Post := fun R a W h0 h2 h3 ha => by
  have hR : ∀ b, R b → R b ∨ (HE.row v T sz n rs).foot b := fun _ h => .inl h
  have hlt : ∀ b, R b ∨ (HE.row v T sz n rs).foot b → b < W.heap.size := by
    rintro b (hb | hb)
    · exact h0 b hb
    · exact HE.ok_lt (h2 _ hm) hb
  unfold Oper.wp
  rw [run_callF ho hfn hn hb, List.map_toArray]
  have hc := h W _ (xs.map a.eval) hlt (fun e he => by cases he) .nil (hl.rel hR (row_ro (h2 _ hm)) (ha.evs hx))
  refine Calls.mono hc ?_
  rintro e W' ⟨u, r, H', R', rfl, hpo, hs, hv⟩
  have p := fn_post1 hs hv hlt
  obtain ⟨q1, q2⟩ := hp r H' hpo
  refine ⟨u, r, H', R, rfl, hpo, p.ext, fun _ h => h, fun _ h => .inl h, q1 _ _ _ _ hv, fun e he => ⟨q2 e he _ _ _ (p.ok e he).1, fun b hb => ?_⟩, p.disj⟩
  have := (p.ok e he).2 b hb
  exact ⟨this.1, fun hr => by have := h0 b hr; omega⟩
end
end Go.Proofs.Ytochjihddnkhcaa.A

namespace Go.Proofs.Ytochjihddnkhcaa.By
open Go.RowKit L A
set_option linter.unusedVariables false
set_option linter.unusedSimpArgs false
attribute [local irreducible] AW AQ AO
abbrev EncRow (w f : Nat → UInt8) : AV → List HE → Prop := fun r Hn => ∃ V : Value, V.oneCell' = true ∧ r = .tup [.val V, .val (.int .i64 0)] ∧ Hn = [.row V 5 1 16 (arB 16 (enc w f))]
theorem encRow_plain (w f : Nat → UInt8) : PlainP (EncRow w f) := by
  rintro r Hn ⟨V, _, rfl, rfl⟩
  refine ⟨fun R R' W u h => h.plainT (fun x hx => ?_), fun e he R R' W h => ?_⟩
  · simp only [List.mem_cons, List.not_mem_nil, or_false] at hx
    rcases hx with rfl | rfl <;> exact ⟨_, rfl⟩
  · obtain rfl : e = _ := List.mem_singleton.1 he
    exact HE.plainRow (vals_arB _ _) h
set_option maxRecDepth 20000 in
set_option maxHeartbeats 4000000 in
theorem rencR_fn (key : List UInt8) (f : Nat → UInt8) (hk : key.length = 16) : Sp Try.prog 22 [roB key, .ro false 16 (arB 16 f)] [] (EncRow (wS (kf key)) f) := by
  refine Sp.enter Try.func22 rfl _ Try.ntmps22 rfl (fun w0 R0 => ?_)
  refine AW.seq ?_
  refine AW.region ?_
  refine AO.op (O.assign rfl rfl) rfl rfl rfl ?_
  refine AO.op (O.assign rfl rfl) rfl rfl rfl ?_
  refine AO.nil ?_
  refine AQ.thenN ?_
  refine AW.seq ?_
  refine AW.seq ?_
  refine AW.region ?_
  refine AO.op (O.move rfl rfl) rfl rfl rfl ?_
  refine AO.op (O.lenR rfl rfl) rfl rfl rfl ?_
  refine AO.op (O.neq rfl rfl rfl (by exact bne_eq_false_iff_eq.2 (by omega))) rfl rfl rfl ?_
  refine AO.op (O.move rfl rfl) rfl rfl rfl ?_
  refine AO.opG rfl rfl rfl (fun hp => O.move rfl rfl) ?_
  refine AO.opG rfl rfl rfl (fun hp => OpW.force 17 rfl (by exact hp) (O.lenR rfl rfl)) ?_
  refine AO.opG rfl rfl rfl (fun hp => OpW.force 18 rfl (by exact hp) (O.neq rfl rfl rfl (by exact bne_eq_false_iff_eq.2 (by omega)))) ?_
  refine AO.op (O.pickOr rfl rfl rfl rfl (fun h => by exact congrArg (fun b => !b) h)) rfl rfl rfl ?_
  refine AO.nil ?_
  refine AQ.thenN ?_
  refine AW.split rfl (fun h => ?_) (fun h => ?_) <;> (try simp only [decide_eq_true_eq, decide_eq_false_iff_not, beq_iff_eq, beq_eq_false_iff_ne, bne_iff_ne, bne_eq_false_iff_eq, Bool.not_eq_true', Bool.not_eq_false', Bool.not_eq_true, Bool.not_eq_false, ne_eq, Int.not_lt, Int.not_le, Bool.and_eq_true, Bool.or_eq_true, Bool.or_eq_false_iff, Bool.and_eq_false_imp, strOf_toList, Decidable.not_not] at h)
  · skip
    exact absurd h (by simp [hk])
  · skip
    refine AW.g ?_
    refine G.re 0 (.ro false 16 (arB 16 (kf key))) (congrArg some (roB_kf hk)) ?_
    refine AW.u ?_
    obtain ⟨w, hwd⟩ : ∃ w, w = wS (kf key) := ⟨_, rfl⟩
    have hs0 : (arB 176 (wS (kf key))).take (16 * 1) = arB 16 (fun q => w (0 * 16 + q)) := by
      have := arB_dt (n := 176) (f := w) (j := 0) (k := 16) (by omega)
      rw [hwd] at this ⊢
      simpa using this
    have hseg : ∀ r, r < 11 → ((arB 176 w).drop (16 * r * 1)).take (16 * 1) = arB 16 fun q => w (r * 16 + q) := fun r hr => by
      rw [show 16 * r * 1 = r * 16 by omega]; exact arB_dt (by omega)
    refine AW.skip ?_
    refine AQ.thenN ?_
    refine AW.seq ?_
    refine AW.region ?_
    refine AO.op (O.call rfl Try.func39 rfl rfl rfl (rsubs_fn)) rfl rfl rfl ?_
    refine AO.opB (O.alloc rfl (by exact zeros_arB _) (by exact List.length_replicate)) rfl rfl rfl ?_
    intro B1
    (refine AO.store (i := 0) rfl rfl rfl rfl rfl rfl (by exact arB_one _ _) (by exact arB_len _ _) (by exact Nat.ble_eq_true_of_le (Nat.le_of_eq (arB_len _ _).symm)) (by exact splice_arB (arB_len _ _)) (by (dsimp only [List.set, List.append, List.cons_append, List.nil_append, splice, ofConst, AV.cells, List.map, List.map_cons, List.map_nil, List.take, List.drop, Nat.zero_add, Nat.add_zero, Nat.reduceAdd, Nat.reduceMul, Nat.zero_mul, Value.cells, List.toList_toArray, zerosA, List.replicate, List.flatten, List.append_nil]; done)) ?_)
    refine AO.nil ?_
    refine AQ.thenN ?_
    refine AW.seq ?_
    refine AW.region ?_
    refine AO.op (O.move rfl rfl) rfl rfl rfl ?_
    refine AO.op (O.loadK rfl rfl (by repeat (exact List.Mem.head _)) (by exact List.take_of_length_le (Nat.le_of_eq (arB_len _ _))) (by exact arB_len _ _)) rfl rfl rfl ?_
    refine AO.op (O.call rfl Try.func38 rfl rfl rfl (rsched_fn _)) rfl rfl rfl ?_
    refine AO.op (O.assign rfl rfl) rfl rfl rfl ?_
    refine AO.nil ?_
    refine AQ.thenN ?_
    refine AW.seq ?_
    refine AW.regionD 7 (by kernel_rfl) (by kernel_rfl) ?_
    simp only [List.take_succ_cons, List.take_zero, List.drop_succ_cons, List.drop_zero]
    refine FA.op (O.move rfl rfl) rfl rfl rfl rfl ?_
    refine FA.op (O.toArr rfl rfl (by omega) (by omega)) rfl rfl rfl rfl ?_
    refine FA.op (O.loadRK rfl rfl (by exact List.take_of_length_le (Nat.le_of_eq (arB_len _ _))) (by exact arB_len _ _)) rfl rfl rfl rfl ?_
    refine FA.op (O.move rfl rfl) rfl rfl rfl rfl ?_
    refine FA.op (O.sliceTo (k := 16) rfl rfl rfl (by rfl) (by omega) (by exact hs0)) rfl rfl rfl rfl ?_
    refine FA.op (O.call rfl Try.func42 rfl rfl rfl (rxor_fn _ _)) rfl rfl rfl rfl ?_
    (refine FA.opN (O.alloc rfl (by (dsimp only [List.set, List.append, List.cons_append, List.nil_append, splice, ofConst, AV.cells, List.map, List.map_cons, List.map_nil, List.take, List.drop, Nat.zero_add, Nat.add_zero, Nat.reduceAdd, Nat.reduceMul, Nat.zero_mul, Value.cells, List.toList_toArray, zerosA, List.replicate, List.flatten, List.append_nil]; done)) (by rfl)) rfl rfl rfl rfl ?_)
    refine FA.nil ?_
    simp only [chosen, List.nil_append, List.cons_append, List.append_nil]
    rintro _ _ ⟨B2, rfl, rfl⟩
    simp only [List.cons_append, List.nil_append]
    (refine AO.store (i := 0) rfl rfl rfl rfl rfl rfl (by exact arB_one _ _) (by exact arB_len _ _) (by rfl) (by exact splice_arB rfl) (by (dsimp only [List.set, List.append, List.cons_append, List.nil_append, splice, ofConst, AV.cells, List.map, List.map_cons, List.map_nil, List.take, List.drop, Nat.zero_add, Nat.add_zero, Nat.reduceAdd, Nat.reduceMul, Nat.zero_mul, Value.cells, List.toList_toArray, zerosA, List.replicate, List.flatten, List.append_nil]; done)) ?_)
    refine AO.nil ?_
    refine AQ.thenN ?_
    refine AW.seq ?_
    refine AW.seq ?_
    refine AW.region ?_
    refine AO.op (O.assign rfl rfl) rfl rfl rfl ?_
    refine AO.nil ?_
    refine AQ.thenN ?_
    refine AW.block ?_
    rw [← hwd]
    refine AW.loopK [(6, _), (7, _), (8, _)] (fun nn E H => ∃ (j : Nat), (j ≤ 10) ∧ nn = 10 - j ∧ E = [(9, .val (.int .i64 ((j + 1 : Nat) : Int)))] ∧ H = [arr16 B2 (encS w f j), .blk B1 51 256 (arB 256 RB)]) _ (⟨0, by omega, rfl, rfl, rfl⟩) (by repeat (first | exact envNil | refine envCons rfl ?_)) (by repeat (first | exact envNil | refine envCons rfl ?_)) (by repeat (first | exact subPnil | refine subPcons 0 rfl ?_)) ?_
    rintro nn E H ⟨j, hj, rfl, rfl, rfl⟩
    dsimp only [List.cons_append, List.nil_append]
    refine AW.seq ?_
    refine AW.seq ?_
    refine AW.region ?_
    refine AO.op (O.move rfl rfl) rfl rfl rfl ?_
    refine AO.op (O.leq rfl rfl rfl (by rfl)) rfl rfl rfl ?_
    refine AO.nil ?_
    refine AQ.thenN ?_
    refine AW.split rfl (fun hj1 => ?_) (fun hj1 => ?_) <;> (try simp only [decide_eq_true_eq, decide_eq_false_iff_not, beq_iff_eq, beq_eq_false_iff_ne, bne_iff_ne, bne_eq_false_iff_eq, Bool.not_eq_true', Bool.not_eq_false', Bool.not_eq_true, Bool.not_eq_false, ne_eq, Int.not_lt, Int.not_le, Bool.and_eq_true, Bool.or_eq_true, Bool.or_eq_false_iff, Bool.and_eq_false_imp, strOf_toList, Decidable.not_not] at hj1)
    · skip
      obtain ⟨g, hg⟩ : ∃ g, g = encS w f j := ⟨_, rfl⟩
      have hst : ∀ q, encS w f (j + 1) q = (if j + 1 < 10 then mixF (shF sb 1 g) m2311 else shF sb 1 g) q ^^^ w ((j + 1) * 16 + q) := fun q => by rw [encS, hg]
      rw [← hg]
      refine AW.skip ?_
      refine AQ.thenN ?_
      refine AW.seq ?_
      refine AW.block ?_
      refine AW.seq ?_
      refine AW.region ?_
      (refine AO.opB (O.alloc rfl (by (dsimp only [List.set, List.append, List.cons_append, List.nil_append, splice, ofConst, AV.cells, List.map, List.map_cons, List.map_nil, List.take, List.drop, Nat.zero_add, Nat.add_zero, Nat.reduceAdd, Nat.reduceMul, Nat.zero_mul, Value.cells, List.toList_toArray, zerosA, List.replicate, List.flatten, List.append_nil]; done)) (by rfl)) rfl rfl rfl ?_)
      intro B3
      refine AO.nil ?_
      refine AQ.thenN ?_
      refine AW.seq ?_
      refine AW.seq ?_
      refine AW.region ?_
      refine AO.op (O.move rfl rfl) rfl rfl rfl ?_
      refine AO.nil ?_
      refine AQ.thenN ?_
      refine AW.block ?_
      have e0 : arr16 B3 (fun _ => 0) = arr16 B3 (fun q => if q < 4 * 0 + 0 then shF sb 1 g q else 0) := arr_eq1 fun q _ => (if_neg (by omega)).symm
      refine AW.loopK [(6, _), (7, _), (8, _), (9, _), (10, _)] (fun nn E H => ∃ (c : Nat), (c ≤ 4) ∧ nn = 4 - c ∧ E = [(35, .val (.int .i64 (c : Int)))] ∧ H = [arr16 B3 (fun q => if q < 4 * c + 0 then shF sb 1 g q else 0), arr16 B2 g, .blk B1 51 256 (arB 256 RB)]) _ (⟨0, by omega, rfl, rfl, congrArg (fun x => [x, arr16 B2 g, .blk B1 51 256 (arB 256 RB)]) e0⟩) (by repeat (first | exact envNil | refine envCons rfl ?_)) (by repeat (first | exact envNil | refine envCons rfl ?_)) (by repeat (first | exact subPnil | refine subPcons 0 rfl ?_)) ?_
      rintro nn E H ⟨c, hc, rfl, rfl, rfl⟩
      dsimp only [List.cons_append, List.nil_append]
      refine AW.seq ?_
      refine AW.region ?_
      refine AO.op (O.lss rfl rfl rfl (by rfl)) rfl rfl rfl ?_
      refine AO.nil ?_
      refine AQ.thenN ?_
      refine AW.seq ?_
      refine AW.split rfl (fun hc4 => ?_) (fun hc4 => ?_) <;> (try simp only [decide_eq_true_eq, decide_eq_false_iff_not, beq_iff_eq, beq_eq_false_iff_ne, bne_iff_ne, bne_eq_false_iff_eq, Bool.not_eq_true', Bool.not_eq_false', Bool.not_eq_true, Bool.not_eq_false, ne_eq, Int.not_lt, Int.not_le, Bool.and_eq_true, Bool.or_eq_true, Bool.or_eq_false_iff, Bool.and_eq_false_imp, strOf_toList, Decidable.not_not] at hc4)
      · skip
        refine AW.skip ?_
        refine AQ.thenN ?_
        refine AW.seq ?_
        refine AW.block ?_
        refine AW.seq ?_
        refine AW.region ?_
        refine AO.op (O.move rfl rfl) rfl rfl rfl ?_
        refine AO.op (O.assign rfl rfl) rfl rfl rfl ?_
        refine AO.nil ?_
        refine AQ.thenN ?_
        refine AW.seq ?_
        refine AW.region ?_
        refine AO.op (O.move rfl rfl) rfl rfl rfl ?_
        refine AO.nil ?_
        refine AQ.thenN ?_
        refine AW.block ?_
        refine AW.loopK [(6, _), (7, _), (8, _), (9, _), (10, _), (11, _), (35, _)] (fun nn E H => ∃ (r : Nat), (r ≤ 4) ∧ nn = 4 - r ∧ E = [(38, .val (.int .i64 (r : Int)))] ∧ H = [arr16 B3 (fun q => if q < 4 * c + r then shF sb 1 g q else 0), arr16 B2 g, .blk B1 51 256 (arB 256 RB)]) _ (⟨0, by omega, rfl, rfl, rfl⟩) (by repeat (first | exact envNil | refine envCons rfl ?_)) (by repeat (first | exact envNil | refine envCons rfl ?_)) (by repeat (first | exact subPnil | refine subPcons 0 rfl ?_)) ?_
        rintro nn E H ⟨r, hr, rfl, rfl, rfl⟩
        dsimp only [List.cons_append, List.nil_append]
        refine AW.seq ?_
        refine AW.region ?_
        refine AO.op (O.lss rfl rfl rfl (by rfl)) rfl rfl rfl ?_
        refine AO.nil ?_
        refine AQ.thenN ?_
        refine AW.seq ?_
        refine AW.split rfl (fun hr4 => ?_) (fun hr4 => ?_) <;> (try simp only [decide_eq_true_eq, decide_eq_false_iff_not, beq_iff_eq, beq_eq_false_iff_ne, bne_iff_ne, bne_eq_false_iff_eq, Bool.not_eq_true', Bool.not_eq_false', Bool.not_eq_true, Bool.not_eq_false, ne_eq, Int.not_lt, Int.not_le, Bool.and_eq_true, Bool.or_eq_true, Bool.or_eq_false_iff, Bool.and_eq_false_imp, strOf_toList, Decidable.not_not] at hr4)
        · skip
          have hr' : r < 4 := by omega
          have hix : (0 + (4 * (((c : Int) + (r : Int)) % 4) + (r : Int)).toNat * 1) = r + 4 * ((c + r) % 4) := by
            have hi : (4 * (((c : Int) + (r : Int)) % 4) + (r : Int)) = ((r + 4 * ((c + r) % 4) : Nat) : Int) := by push_cast; omega
            rw [hi, Int.toNat_natCast]; omega
          have hgb : (arB 16 g)[0 + (4 * (((c : Int) + (r : Int)) % 4) + (r : Int)).toNat * 1]? = some (by8 (g (r + 4 * ((c + r) % 4)))) := by rw [hix]; exact arB_get (by omega) rfl
          have hsh : shF sb 1 g (4 * c + r) = sb (g (r + 4 * ((c + r) % 4))) := by
            rw [shF, show (4 * c + r) % 4 = r by omega, show (4 * c + r) / 4 = c by omega, Nat.one_mul]
          refine AW.skip ?_
          refine AQ.thenN ?_
          refine AW.seq ?_
          refine AW.block ?_
          refine AW.seq ?_
          refine AW.region ?_
          refine AO.op (O.move rfl rfl) rfl rfl rfl ?_
          refine AO.op (O.assign rfl rfl) rfl rfl rfl ?_
          refine AO.nil ?_
          refine AQ.thenN ?_
          refine AW.region ?_
          refine AO.op (O.move rfl rfl) rfl rfl rfl ?_
          refine AO.op (O.mul rfl rfl rfl (by exact wI64 (by omega))) rfl rfl rfl ?_
          refine AO.op (O.move rfl rfl) rfl rfl rfl ?_
          refine AO.op (O.add rfl rfl rfl (by exact wI64 (by omega))) rfl rfl rfl ?_
          refine AO.op (O.move rfl rfl) rfl rfl rfl ?_
          refine AO.op (O.move rfl rfl) rfl rfl rfl ?_
          refine AO.op (O.add rfl rfl rfl (by exact wI64 (by omega))) rfl rfl rfl ?_
          refine AO.op (O.rem rfl rfl rfl (by omega) (tmodE (by omega))) rfl rfl rfl ?_
          refine AO.op (O.mul rfl rfl rfl (by exact wI64 (by omega))) rfl rfl rfl ?_
          refine AO.op (O.move rfl rfl) rfl rfl rfl ?_
          refine AO.op (O.add rfl rfl rfl (by exact wI64 (by omega))) rfl rfl rfl ?_
          refine AO.op (O.idxL rfl rfl rfl (by exact ⟨by omega, by omega⟩)) rfl rfl rfl ?_
          refine AO.op (O.load rfl rfl (by repeat (first | exact List.Mem.head _ | refine List.Mem.tail _ ?_)) (by exact hgb)) rfl rfl rfl ?_
          refine AO.op (O.idxL rfl rfl rfl (by exact u8ix _)) rfl rfl rfl ?_
          refine AO.op (O.load rfl rfl (by repeat (first | exact List.Mem.head _ | refine List.Mem.tail _ ?_)) (by exact box_at1 box_ref _)) rfl rfl rfl ?_
          refine AO.op (O.idxL rfl rfl rfl (by exact ⟨by omega, by omega⟩)) rfl rfl rfl ?_
          (refine AO.store (i := 0) rfl rfl rfl rfl rfl rfl (by rfl) (by rfl) (by exact Nat.ble_eq_true_of_le (by rw [arB_len]; omega)) (by exact arB_set (k := 4 * c + r) (by omega) _ (by omega)) (by (dsimp only [List.set, List.append, List.cons_append, List.nil_append, splice, ofConst, AV.cells, List.map, List.map_cons, List.map_nil, List.take, List.drop, Nat.zero_add, Nat.add_zero, Nat.reduceAdd, Nat.reduceMul, Nat.zero_mul, Value.cells, List.toList_toArray, zerosA, List.replicate, List.flatten, List.append_nil]; done)) ?_)
          refine AO.nil ?_
          refine AQ.blockN ?_
          refine AQ.thenN ?_
          refine AW.region ?_
          refine AO.op (O.add rfl rfl rfl (by exact wI64 (by omega))) rfl rfl rfl ?_
          refine AO.op (O.move rfl rfl) rfl rfl rfl ?_
          refine AO.nil ?_
          have e : arr16 B3 (fun q => if q = 4 * c + r then sb (g (r + 4 * ((c + r) % 4))) else if q < 4 * c + r then shF sb 1 g q else 0) = arr16 B3 (fun q => if q < 4 * c + (r + 1) then shF sb 1 g q else 0) := arr_eq1 fun q _ => by
            rw [← hsh]
            rcases Nat.lt_trichotomy q (4 * c + r) with h1 | h1 | h1
            · rw [if_neg (by omega), if_pos h1, if_pos (by omega)]
            · rw [if_pos h1, if_pos (by omega), h1]
            · rw [if_neg (by omega), if_neg (by omega), if_neg (by omega)]
          refine AQ.loopKN _ _ _ (by omega) (⟨r + 1, by omega, rfl, rfl, congrArg (fun x => [x, arr16 B2 g, .blk B1 51 256 (arB 256 RB)]) e⟩) (by repeat (first | exact envNil | refine envCons rfl ?_)) (by repeat (first | exact envNil | refine envCons rfl ?_)) (by repeat (first | exact subPnil | refine subPcons 0 rfl ?_))
        · skip
          obtain rfl : r = 4 := by omega
          refine AW.exit ?_
          refine AQ.thenX ?_
          refine AQ.loopX ?_
          refine AQ.blockX rfl ?_
          refine AQ.blockN ?_
          refine AQ.thenN ?_
          refine AW.region ?_
          refine AO.op (O.add rfl rfl rfl (by exact wI64 (by omega))) rfl rfl rfl ?_
          refine AO.op (O.move rfl rfl) rfl rfl rfl ?_
          refine AO.nil ?_
          refine AQ.loopKN _ _ _ (by omega) (⟨c + 1, by omega, rfl, rfl, rfl⟩) (by repeat (first | exact envNil | refine envCons rfl ?_)) (by repeat (first | exact envNil | refine envCons rfl ?_)) (by repeat (first | exact subPnil | refine subPcons 0 rfl ?_))
      · skip
        obtain rfl : c = 4 := by omega
        have e : arr16 B3 (fun q => if q < 4 * 4 + 0 then shF sb 1 g q else 0) = arr16 B3 (shF sb 1 g) := arr_eq1 fun q hq => if_pos hq
        rw [e]
        refine AW.exit ?_
        refine AQ.thenX ?_
        refine AQ.loopX ?_
        refine AQ.blockX rfl ?_
        refine AQ.thenN ?_
        refine AW.seq ?_
        refine AW.seq ?_
        refine AW.region ?_
        refine AO.op (O.move rfl rfl) rfl rfl rfl ?_
        refine AO.op (O.lss rfl rfl rfl (by rfl)) rfl rfl rfl ?_
        refine AO.nil ?_
        refine AQ.thenN ?_
        refine AW.split rfl (fun h10 => ?_) (fun h10 => ?_) <;> (try simp only [decide_eq_true_eq, decide_eq_false_iff_not, beq_iff_eq, beq_eq_false_iff_ne, bne_iff_ne, bne_eq_false_iff_eq, Bool.not_eq_true', Bool.not_eq_false', Bool.not_eq_true, Bool.not_eq_false, ne_eq, Int.not_lt, Int.not_le, Bool.and_eq_true, Bool.or_eq_true, Bool.or_eq_false_iff, Bool.and_eq_false_imp, strOf_toList, Decidable.not_not] at h10)
        · skip
          refine AW.region ?_
          refine AO.op (O.loadK rfl rfl (by repeat (exact List.Mem.head _)) (by exact List.take_of_length_le (Nat.le_of_eq (arB_len _ _))) (by exact arB_len _ _)) rfl rfl rfl ?_
          refine AO.op (O.build rfl rfl rfl (by rfl)) rfl rfl rfl ?_
          refine AO.op (O.call rfl Try.func43 rfl rfl rfl (rmix_fn _ m2311)) rfl rfl rfl ?_
          (refine AO.store (i := 0) rfl rfl rfl rfl rfl rfl (by exact arB_one _ _) (by exact arB_len _ _) (by exact Nat.ble_eq_true_of_le (Nat.le_of_eq (arB_len _ _).symm)) (by exact splice_arB (arB_len _ _)) (by (dsimp only [List.set, List.append, List.cons_append, List.nil_append, splice, ofConst, AV.cells, List.map, List.map_cons, List.map_nil, List.take, List.drop, Nat.zero_add, Nat.add_zero, Nat.reduceAdd, Nat.reduceMul, Nat.zero_mul, Value.cells, List.toList_toArray, zerosA, List.replicate, List.flatten, List.append_nil]; done)) ?_)
          refine AO.nil ?_
          refine AQ.thenN ?_
          refine AW.regionD 9 (by kernel_rfl) (by kernel_rfl) ?_
          simp only [List.take_succ_cons, List.take_zero, List.drop_succ_cons, List.drop_zero]
          refine FA.op (O.loadK rfl rfl (by repeat (exact List.Mem.head _)) (by exact List.take_of_length_le (Nat.le_of_eq (arB_len _ _))) (by exact arB_len _ _)) rfl rfl rfl rfl ?_
          refine FA.op (O.move rfl rfl) rfl rfl rfl rfl ?_
          refine FA.op (O.move rfl rfl) rfl rfl rfl rfl ?_
          refine FA.op (O.mul rfl rfl rfl (by exact wI64 (by omega))) rfl rfl rfl rfl ?_
          refine FA.op (O.move rfl rfl) rfl rfl rfl rfl ?_
          refine FA.op (O.mul rfl rfl rfl (by exact wI64 (by omega))) rfl rfl rfl rfl ?_
          refine FA.op (O.add rfl rfl rfl (by exact wI64 (by omega))) rfl rfl rfl rfl ?_
          refine FA.op (O.sliceLHm (m := 16) rfl rfl rfl rfl (l := 16 * (j + 1)) (h := 16 * (j + 1) + 16) (by omega) (by omega) (by omega) (by omega) (by omega) (by exact hseg (j + 1) (by omega))) rfl rfl rfl rfl ?_
          refine FA.op (O.call rfl Try.func42 rfl rfl rfl (rxor_fn _ _)) rfl rfl rfl rfl ?_
          refine FA.nil ?_
          simp only [chosen, List.nil_append, List.cons_append, List.append_nil]
          (refine AO.store (i := 1) rfl rfl rfl rfl rfl rfl (by exact arB_one _ _) (by exact arB_len _ _) (by exact Nat.ble_eq_true_of_le (Nat.le_of_eq (arB_len _ _).symm)) (by exact splice_arB (arB_len _ _)) (by (dsimp only [List.set, List.append, List.cons_append, List.nil_append, splice, ofConst, AV.cells, List.map, List.map_cons, List.map_nil, List.take, List.drop, Nat.zero_add, Nat.add_zero, Nat.reduceAdd, Nat.reduceMul, Nat.zero_mul, Value.cells, List.toList_toArray, zerosA, List.replicate, List.flatten, List.append_nil]; done)) ?_)
          refine AO.nil ?_
          refine AQ.blockN ?_
          refine AQ.thenN ?_
          refine AW.region ?_
          refine AO.op (O.move rfl rfl) rfl rfl rfl ?_
          refine AO.op (O.add rfl rfl rfl (by exact wI64 (by omega))) rfl rfl rfl ?_
          refine AO.op (O.assign rfl rfl) rfl rfl rfl ?_
          refine AO.nil ?_
          have e2 : arr16 B2 (fun q => mixF (shF sb 1 g) m2311 q ^^^ w ((j + 1) * 16 + q)) = arr16 B2 (encS w f (j + 1)) := arr_eq1 fun q _ => by rw [hst, if_pos (by omega)]
          refine AQ.loopKN _ _ _ (by omega) (⟨j + 1, by omega, rfl, rfl, congrArg (fun x => [x, .blk B1 51 256 (arB 256 RB)]) e2⟩) (by repeat (first | exact envNil | refine envCons rfl ?_)) (by repeat (first | exact envNil | refine envCons rfl ?_)) (by repeat (first | exact subPnil | refine subPcons 1 rfl ?_))
        · skip
          refine AW.skip ?_
          refine AQ.thenN ?_
          refine AW.regionD 9 (by kernel_rfl) (by kernel_rfl) ?_
          simp only [List.take_succ_cons, List.take_zero, List.drop_succ_cons, List.drop_zero]
          refine FA.op (O.loadK rfl rfl (by repeat (exact List.Mem.head _)) (by exact List.take_of_length_le (Nat.le_of_eq (arB_len _ _))) (by exact arB_len _ _)) rfl rfl rfl rfl ?_
          refine FA.op (O.move rfl rfl) rfl rfl rfl rfl ?_
          refine FA.op (O.move rfl rfl) rfl rfl rfl rfl ?_
          refine FA.op (O.mul rfl rfl rfl (by exact wI64 (by omega))) rfl rfl rfl rfl ?_
          refine FA.op (O.move rfl rfl) rfl rfl rfl rfl ?_
          refine FA.op (O.mul rfl rfl rfl (by exact wI64 (by omega))) rfl rfl rfl rfl ?_
          refine FA.op (O.add rfl rfl rfl (by exact wI64 (by omega))) rfl rfl rfl rfl ?_
          refine FA.op (O.sliceLHm (m := 16) rfl rfl rfl rfl (l := 16 * (j + 1)) (h := 16 * (j + 1) + 16) (by omega) (by omega) (by omega) (by omega) (by omega) (by exact hseg (j + 1) (by omega))) rfl rfl rfl rfl ?_
          refine FA.op (O.call rfl Try.func42 rfl rfl rfl (rxor_fn _ _)) rfl rfl rfl rfl ?_
          refine FA.nil ?_
          simp only [chosen, List.nil_append, List.cons_append, List.append_nil]
          (refine AO.store (i := 1) rfl rfl rfl rfl rfl rfl (by exact arB_one _ _) (by exact arB_len _ _) (by exact Nat.ble_eq_true_of_le (Nat.le_of_eq (arB_len _ _).symm)) (by exact splice_arB (arB_len _ _)) (by (dsimp only [List.set, List.append, List.cons_append, List.nil_append, splice, ofConst, AV.cells, List.map, List.map_cons, List.map_nil, List.take, List.drop, Nat.zero_add, Nat.add_zero, Nat.reduceAdd, Nat.reduceMul, Nat.zero_mul, Value.cells, List.toList_toArray, zerosA, List.replicate, List.flatten, List.append_nil]; done)) ?_)
          refine AO.nil ?_
          refine AQ.blockN ?_
          refine AQ.thenN ?_
          refine AW.region ?_
          refine AO.op (O.move rfl rfl) rfl rfl rfl ?_
          refine AO.op (O.add rfl rfl rfl (by exact wI64 (by omega))) rfl rfl rfl ?_
          refine AO.op (O.assign rfl rfl) rfl rfl rfl ?_
          refine AO.nil ?_
          have e2 : arr16 B2 (fun q => shF sb 1 g q ^^^ w ((j + 1) * 16 + q)) = arr16 B2 (encS w f (j + 1)) := arr_eq1 fun q _ => by rw [hst, if_neg (by omega)]
          refine AQ.loopKN _ _ _ (by omega) (⟨j + 1, by omega, rfl, rfl, congrArg (fun x => [x, .blk B1 51 256 (arB 256 RB)]) e2⟩) (by repeat (first | exact envNil | refine envCons rfl ?_)) (by repeat (first | exact envNil | refine envCons rfl ?_)) (by repeat (first | exact subPnil | refine subPcons 1 rfl ?_))
    · skip
      obtain rfl : j = 10 := by omega
      refine AW.exit ?_
      refine AQ.thenX ?_
      refine AQ.loopX ?_
      refine AQ.blockX rfl ?_
      refine AQ.thenN ?_
      refine AW.seq ?_
      refine AW.region ?_
      refine AO.op (O.sliceArrK (p := 0) rfl rfl rfl rfl (by rfl) (by rfl) ⟨by omega, by omega⟩ (by omega)) rfl rfl rfl ?_
      refine AO.opRow (O.appendNil rfl (by rfl) (by rfl) rfl rfl (by exact SrcA.blk TyD.ax (by repeat (exact List.Mem.head _)) (by (dsimp only [List.set, List.append, List.cons_append, List.nil_append, splice, ofConst, AV.cells, List.map, List.map_cons, List.map_nil, List.take, List.drop, Nat.zero_add, Nat.add_zero, Nat.reduceAdd, Nat.reduceMul, Nat.zero_mul, Value.cells, List.toList_toArray, zerosA, List.replicate, List.flatten, List.append_nil]; done)) (by rfl)) (by rfl) (by (unfold maxLen; omega)) (by omega)) rfl rfl rfl ?_
      intro V4 hV4
      refine AO.op (O.assign rfl rfl) rfl rfl rfl ?_
      refine AO.op (O.assign rfl rfl) rfl rfl rfl ?_
      refine AO.nil ?_
      refine AQ.thenN ?_
      refine AW.ret ?_
      have em : List.take ((16 - 0) * 1) (arB 16 (encS w f 10)) = arB 16 (enc w f) := by
        show List.take 16 (arB 16 (encS w f 10)) = _
        rw [List.take_of_length_le (Nat.le_of_eq (arB_len _ _))]; rfl
      rw [em]
      refine AQ.ret2G rfl (ResAt.tmp rfl) (ResAt.tmp rfl) ⟨_, List.Sublist.cons_cons _ (List.nil_sublist _), .refl _⟩ ⟨V4, hV4, rfl, rfl⟩
end Go.Proofs.Ytochjihddnkhcaa.By

namespace Go.Proofs.Ytochjihddnkhcaa.By
open Go.RowKit L A
set_option linter.unusedVariables false
set_option linter.unusedSimpArgs false
attribute [local irreducible] AW AQ AO
attribute [local simp] arB_len
theorem absorb_congr {w : Nat → UInt8} : ∀ (n : Nat) (l : List UInt8) (x y : Nat → UInt8), l.length ≤ n → (∀ q, q < 16 → x q = y q) → ∀ q, q < 16 → absorb w x l q = absorb w y l q
  | 0, l, x, y, hl, h, q, hq => by
    obtain rfl : l = [] := List.eq_nil_of_length_eq_zero (by omega)
    rw [absorb_nil, absorb_nil]; exact h q hq
  | n + 1, l, x, y, hl, h, q, hq => by
    by_cases e : l = []
    · subst e; rw [absorb_nil, absorb_nil]; exact h q hq
    · rw [absorb_cons e, absorb_cons e]
      have h0 : 0 < l.length := List.length_pos_iff.2 e
      exact absorb_congr n _ _ _ (by rw [List.length_drop]; omega) (enc_congr fun q hq => by rw [h q hq]) q hq
theorem absorb_app {w : Nat → UInt8} : ∀ (n : Nat) (A B : List UInt8) (x : Nat → UInt8), A.length ≤ n → A.length % 16 = 0 → ∀ q, q < 16 → absorb w x (A ++ B) q = absorb w (absorb w x A) B q
  | 0, A, B, x, hl, h, q, hq => by
    obtain rfl : A = [] := List.eq_nil_of_length_eq_zero (by omega)
    rw [absorb_nil, List.nil_append]
  | n + 1, A, B, x, hl, h, q, hq => by
    by_cases e : A = []
    · subst e; rw [absorb_nil, List.nil_append]
    · have h0 : 0 < A.length := List.length_pos_iff.2 e
      rw [absorb_cons e, absorb_cons (by simp [e]), List.drop_append_of_le_length (by omega)]
      rw [absorb_congr _ _ _ (enc w fun q => x q ^^^ kf A q) (Nat.le_refl _) (enc_congr fun q hq => by
        have : kf (A ++ B) q = kf A q := by simp only [kf, List.getD_eq_getElem?_getD]; rw [List.getElem?_append_left (by omega)]
        rw [this]) q hq]
      exact absorb_app n _ B _ (by rw [List.length_drop]; omega) (by rw [List.length_drop]; omega) q hq
theorem kf_pad (l : List UInt8) (N : Nat) (h : l.length ≤ N) : kf (fnB N (kf l)) = kf l := by
  funext q
  by_cases e : q < N
  · exact kf_fnB e
  · rw [kf_drop _ (by rw [fnB_len]; omega), kf_drop _ (by omega)]
theorem padN_le (n : Nat) : n ≤ padN n := by unfold padN; omega
theorem absorb_pad {w : Nat → UInt8} : ∀ (n : Nat) (l : List UInt8) (x : Nat → UInt8), l.length ≤ n → absorb w x (fnB (padN l.length) (kf l)) = absorb w x l
  | 0, l, x, hl => by
    obtain rfl : l = [] := List.eq_nil_of_length_eq_zero (by omega)
    rfl
  | n + 1, l, x, hl => by
    by_cases e : l = []
    · subst e; rfl
    · have h0 : 0 < l.length := List.length_pos_iff.2 e
      have h1 := padN_le l.length
      have e2 : fnB (padN l.length) (kf l) ≠ [] := fun h => by
        have := congrArg List.length h
        rw [fnB_len] at this; simp at this; omega
      have e3 : (fnB (padN l.length) (kf l)).drop 16 = fnB (padN (l.drop 16).length) (kf (l.drop 16)) := by
        have hp : padN (l.drop 16).length = padN l.length - 16 := by rw [List.length_drop]; unfold padN; omega
        rw [hp]
        apply List.ext_getElem
        · rw [List.length_drop, fnB_len, fnB_len]
        · intro q h2 h3
          rw [List.getElem_drop]
          rw [fnB_len] at h3
          have g : ∀ (N : Nat) (f : Nat → UInt8) (q : Nat) (h : q < (fnB N f).length), (fnB N f)[q] = f q := fun N f q h => by simp [fnB]
          rw [g, g]
          simp [kf, List.getElem?_drop]
      rw [absorb_cons e2, absorb_cons e, kf_pad _ _ h1, e3]
      exact absorb_pad n _ _ (by rw [List.length_drop]; omega)
/-- What the reference puts together. -/
def macA (aad : List UInt8) : List UInt8 := if aad = [] then [] else fnB (padN (headA aad).length) (kf (headA aad))
def macD (nonce aad plain : List UInt8) (tag : Int) : List UInt8 := fnB 16 (blkF (fstB aad nonce tag) nonce plain.length) ++ macA aad ++ fnB (padN plain.length) (kf plain)
theorem padN_mod (n : Nat) : padN n % 16 = 0 := by unfold padN; omega
theorem macA_mod (aad : List UInt8) : (macA aad).length % 16 = 0 := by
  unfold macA; split
  · rfl
  · rw [fnB_len]; exact padN_mod _
theorem macD_abs {w : Nat → UInt8} (nonce aad plain : List UInt8) (tag : Int) : ∀ q, q < 16 → absorb w (fun _ => 0) (macD nonce aad plain tag) q = macF w nonce aad plain tag q := fun q hq => by
  rw [macD, absorb_app _ _ _ _ (Nat.le_refl _) (by rw [List.length_append, fnB_len]; have := macA_mod aad; omega) q hq, absorb_pad _ _ _ (Nat.le_refl _), macF]
  refine absorb_congr _ _ _ _ (Nat.le_refl _) (fun q hq => ?_) q hq
  rw [absorb_app _ _ _ _ (Nat.le_refl _) (by rw [fnB_len]) q hq]
  by_cases e : aad = []
  · rw [if_pos e, macA, if_pos e, absorb_nil]
  · rw [if_neg e, macA, if_neg e, absorb_pad _ _ _ (Nat.le_refl _)]
theorem macD_len (nonce aad plain : List UInt8) (tag : Int) : (macD nonce aad plain tag).length = 16 + (macA aad).length + padN plain.length := by
  rw [macD, List.length_append, List.length_append, fnB_len, fnB_len]
end Go.Proofs.Ytochjihddnkhcaa.By

namespace Go.Proofs.Ytochjihddnkhcaa.By
open Go.RowKit L A
set_option linter.unusedVariables false
set_option linter.unusedSimpArgs false
attribute [local irreducible] AW AQ AO
attribute [local simp] arB_len
set_option maxHeartbeats 4000000 in
theorem mac_fn (key nonce aad plain : List UInt8) (tag : Int) (hk : key.length = 16) (hn13 : nonce.length ≤ 13) (ht : 4 ≤ tag ∧ tag ≤ 16) (ha : aad.length ≤ 10000) (hp : plain.length ≤ 10000) : Sp Try.prog 50 [roB key, roB nonce, roB aad, roB plain, .val (.int .i64 tag)] [] (Is (roB (fnB 16 (macF (wS (kf key)) nonce aad plain tag)))) := by
  refine Sp.enter Try.func50 rfl _ Try.ntmps50 rfl (fun w0 R0 => ?_)
  refine AW.seq ?_
  refine AW.region ?_
  refine AO.op (O.assign rfl rfl) rfl rfl rfl ?_
  refine AO.nil ?_
  refine AQ.thenN ?_
  refine AW.seq ?_
  refine AW.region ?_
  refine AO.op (O.move rfl rfl) rfl rfl rfl ?_
  refine AO.op (O.quo rfl rfl rfl (by omega) (quoE ⟨by omega, by omega⟩ (by omega))) rfl rfl rfl ?_
  refine AO.op (O.sub rfl rfl rfl (by exact wI64 (by omega))) rfl rfl rfl ?_
  refine AO.op (O.mul rfl rfl rfl (by exact wI64 (by omega))) rfl rfl rfl ?_
  refine AO.op (O.add rfl rfl rfl (by exact wI64 (by omega))) rfl rfl rfl ?_
  refine AO.op (O.move rfl rfl) rfl rfl rfl ?_
  refine AO.op (O.lenR rfl rfl) rfl rfl rfl ?_
  refine AO.op (O.sub rfl rfl rfl (by exact wI64 (by omega))) rfl rfl rfl ?_
  refine AO.op (O.assign rfl rfl) rfl rfl rfl ?_
  refine AO.nil ?_
  refine AQ.thenN ?_
  refine AW.seq ?_
  refine AW.region ?_
  refine AO.op (O.assign rfl rfl) rfl rfl rfl ?_
  refine AO.nil ?_
  refine AQ.thenN ?_
  refine AW.seq ?_
  refine AW.seq ?_
  refine AW.region ?_
  refine AO.op (O.move rfl rfl) rfl rfl rfl ?_
  refine AO.op (O.lenR rfl rfl) rfl rfl rfl ?_
  refine AO.op (O.gtr rfl rfl rfl (by rfl)) rfl rfl rfl ?_
  refine AO.nil ?_
  refine AQ.thenN ?_
  obtain ⟨z, hz⟩ : ∃ z, z = 8 * (tag / 2 - 1) + 14 - (nonce.length : Int) := ⟨_, rfl⟩
  have hzb : 0 ≤ z ∧ z ≤ 127 ∧ z + 64 ≤ 255 := by omega
  rw [← hz]
  refine AW.joinK (True) [(0, _), (1, _), (3, _)] [(11, .val (.int .i64 (z + if aad = [] then 0 else 64))), (12, roB (macA aad))] [] rfl (by repeat (first | exact envNil | refine envCons rfl ?_)) (fun h26 => ?_) (fun h26 => ?_) (fun hj => ?_) <;> try (try simp only [decide_eq_true_eq, decide_eq_false_iff_not, beq_iff_eq, beq_eq_false_iff_ne, bne_iff_ne, bne_eq_false_iff_eq, Bool.not_eq_true', Bool.not_eq_false', Bool.not_eq_true, Bool.not_eq_false, ne_eq, Int.not_lt, Int.not_le, Bool.and_eq_true, Bool.or_eq_true, Bool.or_eq_false_iff, Bool.and_eq_false_imp, strOf_toList, Decidable.not_not] at h26)
  · skip
    have hne : aad ≠ [] := fun e => by rw [e] at h26; simp at h26
    have hpl := padded_fn (headA aad) (by simp only [headA, List.length_cons]; omega)
    have em : fnB (padN (headA aad).length) (kf (headA aad)) = macA aad := by rw [macA, if_neg hne]
    have er : roB (headA aad) = AV.ro false (2 + aad.length) (AV.val (.int .u8 ((u8 ((aad.length : Int) / 256)).toNat : Int)) :: AV.val (.int .u8 ((u8 (aad.length : Int)).toNat : Int)) :: bytesA aad) := (roB_of (by simp only [headA, List.length_cons]; omega) rfl).symm
    rw [em, er] at hpl
    refine AW.seq ?_
    refine AW.region ?_
    refine AO.op (O.move rfl rfl) rfl rfl rfl ?_
    refine AO.op (O.add rfl rfl rfl (by exact wI64 (by omega))) rfl rfl rfl ?_
    refine AO.op (O.assign rfl rfl) rfl rfl rfl ?_
    refine AO.nil ?_
    refine AQ.thenN ?_
    refine AW.region ?_
    refine AO.op (O.move rfl rfl) rfl rfl rfl ?_
    refine AO.op (O.lenR rfl rfl) rfl rfl rfl ?_
    refine AO.op (O.shrK 8 256 rfl rfl rfl rfl (by rfl)) rfl rfl rfl ?_
    refine AO.op (O.conv rfl rfl wU8any) rfl rfl rfl ?_
    refine AO.op (O.move rfl rfl) rfl rfl rfl ?_
    refine AO.op (O.lenR rfl rfl) rfl rfl rfl ?_
    refine AO.op (O.conv rfl rfl wU8any) rfl rfl rfl ?_
    refine AO.opB (O.buildSliceF rfl rfl rfl (by rfl) (by rfl) (by rfl) (by rfl) (by rfl)) rfl rfl rfl ?_
    intro B1
    refine AO.g ?_
    refine G.closeRow (b := B1) (n := 2) (cap := 2) 0 rfl rfl rfl (Nat.le_refl _) (by (unfold maxLen; omega)) ?_
    refine AO.u ?_
    dsimp only [List.set]
    refine AO.op (O.move rfl rfl) rfl rfl rfl ?_
    (refine AO.append' (i := 0) rfl rfl rfl rfl (by rfl) (by rfl) rfl rfl rfl (by exact SrcA.ro TyD.ax (by (simp; done)) (Nat.le_of_ble_eq_true rfl)) (by (simp [AV.cells, AV.one, *]; done)) (by (unfold maxLen; omega)) (by omega) (by (dsimp only [List.set, List.append, List.cons_append, List.nil_append, splice, ofConst, AV.cells, List.map, List.map_cons, List.map_nil, List.take, List.drop, Nat.zero_add, Nat.add_zero, Nat.reduceAdd, Nat.reduceMul, Nat.zero_mul, Value.cells, List.toList_toArray, zerosA, List.replicate, List.flatten, List.append_nil]; done)) (fun _ => by (dsimp only [List.set]; done)) ?_)
    intro V2 hV2
    refine AO.g ?_
    refine G.freezeRow 0 rfl [38] (by repeat (first | exact frNil | refine frCons rfl ?_)) ?_
    refine AO.u ?_
    dsimp only [List.map, List.eraseIdx, List.cons_append, List.nil_append]
    refine AO.op (O.call rfl Try.func62 rfl rfl rfl (hpl)) rfl rfl rfl ?_
    refine AO.op (O.assign rfl rfl) rfl rfl rfl ?_
    refine AO.nil ?_
    have e11 : z + 64 = z + (if aad = [] then 0 else 64) := by rw [if_neg hne]
    rw [e11]
    refine AQ.midK0 (trivial) (by repeat (first | exact envNil | refine envCons rfl ?_)) (by repeat (exact subPnil))
  · skip
    have hne : aad = [] := List.eq_nil_of_length_eq_zero (by omega)
    have e11 : z + (if aad = [] then 0 else 64) = z := by rw [if_pos hne, Int.add_zero]
    have e12 : roB (macA aad) = .ro false 0 [] := by rw [macA, if_pos hne]; rfl
    rw [e11, e12]
    refine AW.skip ?_
    refine AQ.g ?_
    refine G.nilRo 12 rfl ?_
    refine AQ.u ?_
    refine AQ.midK (trivial) (by repeat (first | exact envNil | refine envCons rfl ?_)) (by repeat (first | exact envNil | refine envCons rfl ?_)) (by repeat (exact subPnil))
  · dsimp only [List.cons_append, List.nil_append]
    refine AQ.thenN ?_
    have hal : (macA aad).length ≤ 10020 := by
      unfold macA; split
      · simp
      · rw [fnB_len, headA, List.length_cons, List.length_cons]; unfold padN; omega
    have hpl : (fnB (padN plain.length) (kf plain)).length ≤ 10020 := by rw [fnB_len]; unfold padN; omega
    have hfs : u8 (z + if aad = [] then 0 else 64) = fstB aad nonce tag := by rw [fstB, hz]
    refine AW.seq ?_
    refine AW.region ?_
    refine AO.op (O.move rfl rfl) rfl rfl rfl ?_
    refine AO.op (O.move rfl rfl) rfl rfl rfl ?_
    refine AO.op (O.move rfl rfl) rfl rfl rfl ?_
    refine AO.op (O.lenR rfl rfl) rfl rfl rfl ?_
    refine AO.opRow (O.call rfl Try.func61 rfl rfl rfl (countedR_fn _ nonce _ hn13 ⟨by omega, by omega⟩)) rfl rfl rfl ?_
    intro V3 hV3
    refine AO.op (O.move rfl rfl) rfl rfl rfl ?_
    (refine AO.append' (i := 0) rfl rfl rfl rfl (by rfl) (by rfl) rfl rfl rfl (by exact SrcA.ro TyD.ax (by (simp; done)) (Nat.le_of_ble_eq_true rfl)) (by (simp [AV.cells, AV.one, *]; done)) (by (unfold maxLen; omega)) (by omega) (by (dsimp only [List.set, List.append, List.cons_append, List.nil_append, splice, ofConst, AV.cells, List.map, List.map_cons, List.map_nil, List.take, List.drop, Nat.zero_add, Nat.add_zero, Nat.reduceAdd, Nat.reduceMul, Nat.zero_mul, Value.cells, List.toList_toArray, zerosA, List.replicate, List.flatten, List.append_nil]; done)) (fun _ => by (dsimp only [List.set]; done)) ?_)
    intro V4 hV4
    refine AO.op (O.move rfl rfl) rfl rfl rfl ?_
    refine AO.op (O.call rfl Try.func62 rfl rfl rfl (padded_fn plain (by omega))) rfl rfl rfl ?_
    (refine AO.append' (i := 0) rfl rfl rfl rfl (by rfl) (by rfl) rfl rfl rfl (by exact SrcA.ro TyD.ax (by (simp; done)) (Nat.le_of_ble_eq_true rfl)) (by exact arB_one _ _) (by (unfold maxLen; omega)) (by omega) (by (dsimp only [List.set, List.append, List.cons_append, List.nil_append, splice, ofConst, AV.cells, List.map, List.map_cons, List.map_nil, List.take, List.drop, Nat.zero_add, Nat.add_zero, Nat.reduceAdd, Nat.reduceMul, Nat.zero_mul, Value.cells, List.toList_toArray, zerosA, List.replicate, List.flatten, List.append_nil]; done)) (fun _ => by (dsimp only [List.set]; done)) ?_)
    intro V5 hV5
    refine AO.g ?_
    refine G.freezeRow 0 rfl [49] (by repeat (first | exact frNil | refine frCons rfl ?_)) ?_
    refine AO.u ?_
    dsimp only [List.map, List.eraseIdx, List.cons_append, List.nil_append]
    refine AO.op (O.assign rfl rfl) rfl rfl rfl ?_
    refine AO.nil ?_
    refine AQ.thenN ?_
    refine AW.seq ?_
    refine AW.region ?_
    refine AO.opB (O.makeSlice rfl rfl rfl (by rfl) (by rfl) (by decide) (by decide) (by rfl)) rfl rfl rfl ?_
    intro B6
    refine AO.op (O.assign rfl rfl) rfl rfl rfl ?_
    refine AO.nil ?_
    refine AQ.thenN ?_
    refine AW.seq ?_
    refine AW.seq ?_
    refine AW.region ?_
    refine AO.op (O.assign rfl rfl) rfl rfl rfl ?_
    refine AO.nil ?_
    refine AQ.thenN ?_
    refine AW.block ?_
    rw [hfs]
    obtain ⟨N, hN⟩ : ∃ N, N = (macD nonce aad plain tag).length := ⟨_, rfl⟩
    have hNe : N = 16 + (macA aad).length + padN plain.length := by rw [hN, macD_len]
    have hN16 : N % 16 = 0 := by have := macA_mod aad; have := padN_mod plain.length; omega
    have hNl : N ≤ 100000 := by rw [fnB_len] at hpl; omega
    have e12 : AV.ro false (16 + (macA aad).length + (fnB (padN plain.length) (kf plain)).length) (arB 16 (blkF (fstB aad nonce tag) nonce plain.length) ++ bytesA (macA aad) ++ bytesA (fnB (padN plain.length) (kf plain))) = .ro false N (arB N (kf (macD nonce aad plain tag))) := by
      have e : arB 16 (blkF (fstB aad nonce tag) nonce plain.length) ++ bytesA (macA aad) ++ bytesA (fnB (padN plain.length) (kf plain)) = bytesA (macD nonce aad plain tag) := by
        simp only [macD, bytesA, List.map_append]; rfl
      rw [e, arB_kf, ← hN, fnB_len, ← hNe]
    rw [e12]
    have e13 : zerosA 16 (.int .u8 0) = arB 16 (fun _ => 0) := rfl
    rw [e13]
    refine AW.g ?_
    refine G.closeRow (b := B6) (n := 16) (cap := 16) 0 rfl (arB_len _ _) rfl (Nat.le_refl _) (by (unfold maxLen; omega)) ?_
    refine AW.u ?_
    dsimp only [List.set]
    have hfin := macD_abs (w := wS (kf key)) nonce aad plain tag
    obtain ⟨D, hD⟩ : ∃ D, D = macD nonce aad plain tag := ⟨_, rfl⟩
    rw [← hD] at hN hfin ⊢
    obtain ⟨M, hM⟩ : ∃ M, M = macF (wS (kf key)) nonce aad plain tag := ⟨_, rfl⟩
    rw [← hM] at hfin ⊢
    obtain ⟨w, hw⟩ : ∃ w, w = wS (kf key) := ⟨_, rfl⟩
    rw [← hw] at hfin
    refine AW.loopK [(0, _), (12, _)] (fun nn E H => ∃ (j : Nat) (V : Value) (x : Nat → UInt8), (16 * j ≤ N) ∧ (V.oneCell' = true) ∧ (absorb w x (D.drop (16 * j)) = absorb w (fun _ => 0) D) ∧ nn = N - 16 * j ∧ E = [(13, .val V), (14, .val (.int .i64 ((16 * j : Nat) : Int)))] ∧ H = [.row V 5 1 16 (arB 16 x)]) _ (⟨0, _, fun _ => 0, by omega, rfl, rfl, rfl, rfl, rfl⟩) (by repeat (first | exact envNil | refine envCons rfl ?_)) (by repeat (first | exact envNil | refine envCons rfl ?_)) (by repeat (first | exact subPnil | refine subPcons 0 rfl ?_)) ?_
    rintro nn E H ⟨j, V, x, hj, hV, hx, rfl, rfl, rfl⟩
    dsimp only [List.cons_append, List.nil_append]
    refine AW.seq ?_
    refine AW.seq ?_
    refine AW.region ?_
    refine AO.op (O.move rfl rfl) rfl rfl rfl ?_
    refine AO.op (O.move rfl rfl) rfl rfl rfl ?_
    refine AO.op (O.lenR rfl rfl) rfl rfl rfl ?_
    refine AO.op (O.lss rfl rfl rfl (by rfl)) rfl rfl rfl ?_
    refine AO.nil ?_
    refine AQ.thenN ?_
    refine AW.split rfl (fun h => ?_) (fun h => ?_) <;> (try simp only [decide_eq_true_eq, decide_eq_false_iff_not, beq_iff_eq, beq_eq_false_iff_ne, bne_iff_ne, bne_eq_false_iff_eq, Bool.not_eq_true', Bool.not_eq_false', Bool.not_eq_true, Bool.not_eq_false, ne_eq, Int.not_lt, Int.not_le, Bool.and_eq_true, Bool.or_eq_true, Bool.or_eq_false_iff, Bool.and_eq_false_imp, strOf_toList, Decidable.not_not] at h)
    · skip
      have hj' : 16 * j + 16 ≤ N := by omega
      refine AW.g ?_
      refine G.openRow 0 rfl (by omega) (fun b' cap hc1 hc2 hxs hVe => ?_)
      refine AW.u ?_
      subst hVe
      dsimp only [List.set]
      refine AW.skip ?_
      refine AQ.thenN ?_
      refine AW.seq ?_
      refine AW.block ?_
      refine AW.seq ?_
      refine AW.seq ?_
      refine AW.region ?_
      refine AO.op (O.move rfl rfl) rfl rfl rfl ?_
      refine AO.nil ?_
      refine AQ.thenN ?_
      refine AW.block ?_
      have e0 : arB 16 x = arB 16 (fun q => if q < 0 then x q ^^^ kf D (16 * j + q) else x q) := arB_congr fun q _ => (if_neg (by omega)).symm
      rw [e0]
      refine AW.loopK [(0, _), (12, _), (13, _), (14, _)] (fun nn E H => ∃ (k : Nat), (k ≤ 16) ∧ nn = 16 - k ∧ E = [(57, .val (.int .i64 (k : Int)))] ∧ H = [.blk b' 5 (cap * 1) (arB 16 (fun q => if q < k then x q ^^^ kf D (16 * j + q) else x q))]) _ (⟨0, by omega, rfl, rfl, rfl⟩) (by repeat (first | exact envNil | refine envCons rfl ?_)) (by repeat (first | exact envNil | refine envCons rfl ?_)) (by repeat (first | exact subPnil | refine subPcons 0 rfl ?_)) ?_
      rintro nn E H ⟨k, hk2, rfl, rfl, rfl⟩
      dsimp only [List.cons_append, List.nil_append]
      refine AW.seq ?_
      refine AW.region ?_
      refine AO.op (O.lss rfl rfl rfl (by rfl)) rfl rfl rfl ?_
      refine AO.nil ?_
      refine AQ.thenN ?_
      refine AW.seq ?_
      refine AW.split rfl (fun h2 => ?_) (fun h2 => ?_) <;> (try simp only [decide_eq_true_eq, decide_eq_false_iff_not, beq_iff_eq, beq_eq_false_iff_ne, bne_iff_ne, bne_eq_false_iff_eq, Bool.not_eq_true', Bool.not_eq_false', Bool.not_eq_true, Bool.not_eq_false, ne_eq, Int.not_lt, Int.not_le, Bool.and_eq_true, Bool.or_eq_true, Bool.or_eq_false_iff, Bool.and_eq_false_imp, strOf_toList, Decidable.not_not] at h2)
      · skip
        have hk' : k < 16 := by omega
        refine AW.skip ?_
        refine AQ.thenN ?_
        refine AW.seq ?_
        refine AW.block ?_
        refine AW.seq ?_
        refine AW.region ?_
        refine AO.op (O.move rfl rfl) rfl rfl rfl ?_
        refine AO.op (O.assign rfl rfl) rfl rfl rfl ?_
        refine AO.nil ?_
        refine AQ.thenN ?_
        refine AW.regionD 12 (by kernel_rfl) (by kernel_rfl) ?_
        simp only [List.take_succ_cons, List.take_zero, List.drop_succ_cons, List.drop_zero]
        refine FA.op (O.move rfl rfl) rfl rfl rfl rfl ?_
        refine FA.op (O.move rfl rfl) rfl rfl rfl rfl ?_
        refine FA.op (O.idxV rfl rfl rfl ⟨(by omega), (by omega)⟩) rfl rfl rfl rfl ?_
        refine FA.op (O.load rfl rfl (by repeat (exact List.Mem.head _)) (by exact arB_get (k := k) (by omega) (by omega))) rfl rfl rfl rfl ?_
        refine FA.op (O.move rfl rfl) rfl rfl rfl rfl ?_
        refine FA.op (O.move rfl rfl) rfl rfl rfl rfl ?_
        refine FA.op (O.move rfl rfl) rfl rfl rfl rfl ?_
        refine FA.op (O.add rfl rfl rfl (by exact wI64 (by omega))) rfl rfl rfl rfl ?_
        refine FA.op (O.idxR rfl rfl rfl ⟨(by omega), (by omega)⟩) rfl rfl rfl rfl ?_
        refine FA.op (O.loadR rfl rfl (by exact arB_get (k := 16 * j + k) (by omega) (by omega))) rfl rfl rfl rfl ?_
        refine FA.op (O.xor_ rfl rfl rfl xorU8) rfl rfl rfl rfl ?_
        refine FA.op (O.idxV rfl rfl rfl ⟨(by omega), (by omega)⟩) rfl rfl rfl rfl ?_
        refine FA.nil ?_
        simp only [chosen, List.nil_append, List.cons_append, List.append_nil]
        (refine AO.store (i := 0) rfl rfl rfl rfl rfl rfl (by rfl) (by rfl) (by exact Nat.ble_eq_true_of_le (by rw [arB_len]; omega)) (by exact arB_set (k := k) (by omega) _ (by omega)) (by (dsimp only [List.set, List.append, List.cons_append, List.nil_append, splice, ofConst, AV.cells, List.map, List.map_cons, List.map_nil, List.take, List.drop, Nat.zero_add, Nat.add_zero, Nat.reduceAdd, Nat.reduceMul, Nat.zero_mul, Value.cells, List.toList_toArray, zerosA, List.replicate, List.flatten, List.append_nil]; done)) ?_)
        refine AO.nil ?_
        refine AQ.blockN ?_
        refine AQ.thenN ?_
        refine AW.region ?_
        refine AO.op (O.add rfl rfl rfl (by exact wI64 (by omega))) rfl rfl rfl ?_
        refine AO.op (O.move rfl rfl) rfl rfl rfl ?_
        refine AO.nil ?_
        have e1 : arB 16 (fun q => if q = k then (if k < k then x k ^^^ kf D (16 * j + k) else x k) ^^^ kf D (16 * j + k) else if q < k then x q ^^^ kf D (16 * j + q) else x q) = arB 16 (fun q => if q < k + 1 then x q ^^^ kf D (16 * j + q) else x q) := arB_congr fun q _ => by
          rcases Nat.lt_trichotomy q k with h1 | h1 | h1
          · rw [if_neg (by omega), if_pos h1, if_pos (by omega)]
          · rw [if_pos h1, if_neg (by omega), if_pos (by omega), h1]
          · rw [if_neg (by omega), if_neg (by omega), if_neg (by omega)]
        rw [e1]
        refine AQ.loopKN _ _ _ (by omega) (⟨k + 1, by omega, rfl, rfl, rfl⟩) (by repeat (first | exact envNil | refine envCons rfl ?_)) (by repeat (first | exact envNil | refine envCons rfl ?_)) (by repeat (first | exact subPnil | refine subPcons 0 rfl ?_))
      · skip
        obtain rfl : k = 16 := by omega
        have e1 : arB 16 (fun q => if q < 16 then x q ^^^ kf D (16 * j + q) else x q) = arB 16 (fun q => x q ^^^ kf D (16 * j + q)) := arB_congr fun q hq => if_pos hq
        rw [e1]
        refine AW.g ?_
        refine G.closeRow (b := b') (n := 16) (cap := cap) 0 rfl (arB_len _ _) rfl hc1 hc2 ?_
        refine AW.u ?_
        dsimp only [List.set]
        refine AW.exit ?_
        refine AQ.thenX ?_
        refine AQ.loopX ?_
        refine AQ.blockX rfl ?_
        refine AQ.thenN ?_
        refine AW.region ?_
        refine AO.op (O.move rfl rfl) rfl rfl rfl ?_
        refine AO.op (O.move rfl rfl) rfl rfl rfl ?_
        refine AO.opN (O.callLP rfl Try.func22 rfl rfl rfl (by repeat (exact List.Mem.head _)) (rencR_fn key _ hk) (encRow_plain _ _) (by (repeat (first | exact LendL.nil | refine LendL.same ?_ | refine LendL.lend ?_)); done)) rfl rfl rfl ?_
        rintro _ _ ⟨V97, hV97, rfl, rfl⟩
        simp only [List.cons_append, List.nil_append]
        refine AO.op (O.move rfl rfl) rfl rfl rfl ?_
        refine AO.op (O.extract rfl rfl rfl) rfl rfl rfl ?_
        refine AO.op (O.extract rfl rfl rfl) rfl rfl rfl ?_
        refine AO.op (O.assign rfl rfl) rfl rfl rfl ?_
        refine AO.nil ?_
        refine AQ.blockN ?_
        refine AQ.thenN ?_
        refine AW.region ?_
        refine AO.op (O.move rfl rfl) rfl rfl rfl ?_
        refine AO.op (O.add rfl rfl rfl (by exact wI64 (by omega))) rfl rfl rfl ?_
        refine AO.op (O.assign rfl rfl) rfl rfl rfl ?_
        refine AO.nil ?_
        have hne : D.drop (16 * j) ≠ [] := fun e => by
          have := congrArg List.length e
          rw [List.length_drop, List.length_nil] at this; omega
        have hx2 : absorb w (enc w fun q => x q ^^^ kf D (16 * j + q)) (D.drop (16 * (j + 1))) = absorb w (fun _ => 0) D := by
          rw [← hx, absorb_cons hne, List.drop_drop]
          have ek : (fun q => x q ^^^ kf (D.drop (16 * j)) q) = fun q => x q ^^^ kf D (16 * j + q) := by
            funext q; simp [kf, List.getElem?_drop]
          rw [ek, show 16 * j + 16 = 16 * (j + 1) by omega]
        have e2 : ((16 * j : Nat) : Int) + 16 = ((16 * (j + 1) : Nat) : Int) := by omega
        rw [e2, ← hw]
        refine AQ.loopKN _ _ _ (by omega) (⟨j + 1, _, _, by omega, hV97, hx2, rfl, rfl, rfl⟩) (by repeat (first | exact envNil | refine envCons rfl ?_)) (by repeat (first | exact envNil | refine envCons rfl ?_)) (by repeat (first | exact subPnil | refine subPcons 0 rfl ?_))
    · skip
      have hj' : 16 * j = N := by omega
      refine AW.exit ?_
      refine AQ.thenX ?_
      refine AQ.loopX ?_
      refine AQ.blockX rfl ?_
      refine AQ.thenN ?_
      refine AW.seq ?_
      refine AW.region ?_
      refine AO.op (O.move rfl rfl) rfl rfl rfl ?_
      refine AO.op (O.assign rfl rfl) rfl rfl rfl ?_
      refine AO.nil ?_
      refine AQ.thenN ?_
      refine AW.ret ?_
      refine AQ.g ?_
      refine G.freezeRow 0 rfl [10] (by repeat (first | exact frNil | refine frCons rfl ?_)) ?_
      refine AQ.u ?_
      try dsimp only [List.map, List.eraseIdx, List.cons_append, List.nil_append]
      have ed : D.drop (16 * j) = [] := List.drop_eq_nil_of_le (by omega)
      rw [ed, absorb_nil] at hx
      have ef : arB 16 x = arB 16 M := arB_congr fun q hq => by rw [hx]; exact hfin q hq
      rw [ef]
      refine AQ.g ?_
      refine G.re 10 (roB (fnB 16 M)) (congrArg some (roB_fnB _ _).symm) ?_
      refine AQ.u ?_
      refine AQ.ret1 rfl rfl ⟨_, List.nil_sublist _, .nil⟩ (⟨rfl, rfl⟩)
end Go.Proofs.Ytochjihddnkhcaa.By

namespace Go.Proofs.Ytochjihddnkhcaa.By
open Go.RowKit L A
set_option linter.unusedVariables false
set_option linter.unusedSimpArgs false
attribute [local irreducible] AW AQ AO
attribute [local simp] arB_len
def sF (w : Nat → UInt8) (nonce b : List UInt8) (c : Int) (i : Nat) : UInt8 := kf b i ^^^ enc w (blkF (u8 (14 - (nonce.length : Int))) nonce (c + ((i / 16 : Nat) : Int))) (i % 16)
theorem counted2_fn (first : Int) (nonce : List UInt8) (n : Int) (hn13 : nonce.length ≤ 13) (hn : 0 ≤ n ∧ n ≤ 9223372036854775807) : Sp Try.prog 61 [.val (.int .i64 first), roB nonce, .val (.int .i64 n)] [] (Is (.ro false 16 (arB 16 (blkF (u8 first) nonce n)))) := by
  rw [← roB_fnB]; exact counted_fn first nonce n hn13 hn
theorem renc2_fn (key : List UInt8) (f : Nat → UInt8) (hk : key.length = 16) : Sp Try.prog 22 [roB key, .ro false 16 (arB 16 f)] [] (Is (.tup [.ro false 16 (arB 16 (enc (wS (kf key)) f)), .val (.int .i64 0)])) := by
  have h := renc_fn key (fnB 16 f)
  have e1 : encL key (fnB 16 f) = fnB 16 (enc (wS (kf key)) f) := by
    rw [encL, if_pos ⟨hk, fnB_len _ _⟩]
    exact fnB_congr (enc_congr fun q hq => kf_fnB hq)
  have e2 : encE key (fnB 16 f) = 0 := if_pos ⟨hk, fnB_len _ _⟩
  rw [e1, e2, roB_fnB, roB_fnB] at h
  exact h
set_option maxHeartbeats 4000000 in
theorem rstream_fn (key nonce b : List UInt8) (c : Int) (hk : key.length = 16) (hn13 : nonce.length ≤ 13) (hc : 0 ≤ c ∧ c ≤ 1) (hb : b.length ≤ 10000) : Sp Try.prog 49 [roB key, roB nonce, roB b, .val (.int .i64 c)] [] (NewRow 5 1 b.length (arB b.length (sF (wS (kf key)) nonce b c))) := by
  refine Sp.enter Try.func49 rfl _ Try.ntmps49 rfl (fun w0 R0 => ?_)
  refine AW.seq ?_
  refine AW.region ?_
  refine AO.op (O.assign rfl rfl) rfl rfl rfl ?_
  refine AO.nil ?_
  refine AQ.thenN ?_
  refine AW.seq ?_
  refine AW.region ?_
  refine AO.op (O.assign rfl rfl) rfl rfl rfl ?_
  refine AO.op (O.assign rfl rfl) rfl rfl rfl ?_
  refine AO.nil ?_
  refine AQ.thenN ?_
  refine AW.seq ?_
  refine AW.seq ?_
  refine AW.region ?_
  refine AO.op (O.move rfl rfl) rfl rfl rfl ?_
  refine AO.op (O.lenR rfl rfl) rfl rfl rfl ?_
  refine AO.op (O.move rfl rfl) rfl rfl rfl ?_
  refine AO.nil ?_
  refine AQ.thenN ?_
  refine AW.block ?_
  refine AW.g ?_
  refine G.nilRow 5 1 ?_
  refine AW.u ?_
  refine AW.loopK [(0, _), (1, _), (3, _), (13, _), (14, _)] (fun nn E H => ∃ (i : Nat) (V : Value) (S : AV), (i ≤ b.length) ∧ (V.oneCell' = true) ∧ (i % 16 ≠ 0 → S = .ro false 16 (arB 16 (enc (wS (kf key)) (blkF (u8 (14 - (nonce.length : Int))) nonce (c + ((i / 16 : Nat) : Int)))))) ∧ nn = b.length - i ∧ E = [(9, .val V), (10, S), (15, .val (.int .i64 (i : Int)))] ∧ H = [.row V 5 1 i (arB i (sF (wS (kf key)) nonce b c))]) _ (⟨0, .slice none 0 0, .val (.slice none 0 0), by omega, rfl, fun h => absurd rfl h, rfl, rfl, rfl⟩) (by repeat (first | exact envNil | refine envCons rfl ?_)) (by repeat (first | exact envNil | refine envCons rfl ?_)) (by repeat (first | exact subPnil | refine subPcons 0 rfl ?_)) ?_
  rintro nn E H ⟨i, V, S, hi, hV, hS, rfl, rfl, rfl⟩
  dsimp only [List.cons_append, List.nil_append]
  refine AW.seq ?_
  refine AW.region ?_
  refine AO.op (O.lss rfl rfl rfl (by rfl)) rfl rfl rfl ?_
  refine AO.nil ?_
  refine AQ.thenN ?_
  refine AW.seq ?_
  refine AW.split rfl (fun h => ?_) (fun h => ?_) <;> (try simp only [decide_eq_true_eq, decide_eq_false_iff_not, beq_iff_eq, beq_eq_false_iff_ne, bne_iff_ne, bne_eq_false_iff_eq, Bool.not_eq_true', Bool.not_eq_false', Bool.not_eq_true, Bool.not_eq_false, ne_eq, Int.not_lt, Int.not_le, Bool.and_eq_true, Bool.or_eq_true, Bool.or_eq_false_iff, Bool.and_eq_false_imp, strOf_toList, Decidable.not_not] at h)
  · skip
    have hi' : i < b.length := by omega
    have hget : (bytesA b)[(i : Int).toNat * 1]? = some (by8 (kf b i)) := by
      rw [arB_kf]; exact arB_get (by omega) (by omega)
    refine AW.skip ?_
    refine AQ.thenN ?_
    refine AW.seq ?_
    refine AW.block ?_
    refine AW.seq ?_
    refine AW.region ?_
    refine AO.op (O.move rfl rfl) rfl rfl rfl ?_
    refine AO.op (O.idxR rfl rfl rfl ⟨(by omega), (by omega)⟩) rfl rfl rfl ?_
    refine AO.op (O.loadR rfl rfl (by exact hget)) rfl rfl rfl ?_
    refine AO.op (O.assign rfl rfl) rfl rfl rfl ?_
    refine AO.op (O.assign rfl rfl) rfl rfl rfl ?_
    refine AO.nil ?_
    refine AQ.thenN ?_
    refine AW.seq ?_
    refine AW.seq ?_
    refine AW.region ?_
    refine AO.op (O.move rfl rfl) rfl rfl rfl ?_
    refine AO.op (O.rem rfl rfl rfl (by omega) (tmodE (by omega))) rfl rfl rfl ?_
    refine AO.op (O.eql rfl rfl rfl (by rfl)) rfl rfl rfl ?_
    refine AO.nil ?_
    refine AQ.thenN ?_
    obtain ⟨z, hz⟩ : ∃ z, z = enc (wS (kf key)) (blkF (u8 (14 - (nonce.length : Int))) nonce (c + ((i / 16 : Nat) : Int))) := ⟨_, rfl⟩
    have ei : (i : Int) / 16 = ((i / 16 : Nat) : Int) := by omega
    refine AW.joinK (True) [(0, _), (1, _), (3, _), (9, _), (11, _), (12, _), (13, _), (14, _), (15, _)] [(10, .ro false 16 (arB 16 z))] [.row V 5 1 i (arB i (sF (wS (kf key)) nonce b c))] rfl (by repeat (first | exact envNil | refine envCons rfl ?_)) (fun h22 => ?_) (fun h22 => ?_) (fun hj => ?_) <;> try (try simp only [decide_eq_true_eq, decide_eq_false_iff_not, beq_iff_eq, beq_eq_false_iff_ne, bne_iff_ne, bne_eq_false_iff_eq, Bool.not_eq_true', Bool.not_eq_false', Bool.not_eq_true, Bool.not_eq_false, ne_eq, Int.not_lt, Int.not_le, Bool.and_eq_true, Bool.or_eq_true, Bool.or_eq_false_iff, Bool.and_eq_false_imp, strOf_toList, Decidable.not_not] at h22)
    · skip
      refine AW.region ?_
      refine AO.op (O.move rfl rfl) rfl rfl rfl ?_
      refine AO.op (O.move rfl rfl) rfl rfl rfl ?_
      refine AO.op (O.lenR rfl rfl) rfl rfl rfl ?_
      refine AO.op (O.sub rfl rfl rfl (by exact wI64 (by omega))) rfl rfl rfl ?_
      refine AO.op (O.move rfl rfl) rfl rfl rfl ?_
      refine AO.op (O.move rfl rfl) rfl rfl rfl ?_
      refine AO.op (O.move rfl rfl) rfl rfl rfl ?_
      refine AO.op (O.quo rfl rfl rfl (by omega) (quoE ⟨by omega, by omega⟩ (by omega))) rfl rfl rfl ?_
      refine AO.op (O.add rfl rfl rfl (by exact wI64 (by omega))) rfl rfl rfl ?_
      refine AO.op (O.call rfl Try.func61 rfl rfl rfl (counted2_fn _ nonce _ hn13 ⟨by omega, by omega⟩)) rfl rfl rfl ?_
      refine AO.op (O.call rfl Try.func22 rfl rfl rfl (renc2_fn key _ hk)) rfl rfl rfl ?_
      refine AO.op (O.move rfl rfl) rfl rfl rfl ?_
      refine AO.op (O.extract rfl rfl rfl) rfl rfl rfl ?_
      refine AO.op (O.extract rfl rfl rfl) rfl rfl rfl ?_
      refine AO.op (O.assign rfl rfl) rfl rfl rfl ?_
      refine AO.nil ?_
      rw [ei, ← hz]
      refine AQ.midK (trivial) (by repeat (first | exact envNil | refine envCons rfl ?_)) (by repeat (first | exact envNil | refine envCons rfl ?_)) (by repeat (first | exact subPnil | refine subPcons 0 rfl ?_))
    · skip
      have := hS (by omega)
      subst this
      rw [← hz]
      refine AW.skip ?_
      refine AQ.midK (trivial) (by repeat (first | exact envNil | refine envCons rfl ?_)) (by repeat (first | exact envNil | refine envCons rfl ?_)) (by repeat (first | exact subPnil | refine subPcons 0 rfl ?_))
    · dsimp only [List.cons_append, List.nil_append]
      refine AQ.thenN ?_
      refine AW.region ?_
      refine AO.op (O.move rfl rfl) rfl rfl rfl ?_
      refine AO.op (O.move rfl rfl) rfl rfl rfl ?_
      refine AO.op (O.move rfl rfl) rfl rfl rfl ?_
      refine AO.op (O.move rfl rfl) rfl rfl rfl ?_
      refine AO.op (O.rem rfl rfl rfl (by omega) (tmodE (by omega))) rfl rfl rfl ?_
      refine AO.op (O.idxR rfl rfl rfl ⟨(by omega), (by omega)⟩) rfl rfl rfl ?_
      refine AO.op (O.loadR rfl rfl (by exact arB_get (k := i % 16) (by omega) (by omega))) rfl rfl rfl ?_
      refine AO.op (O.xor_ rfl rfl rfl xorU8) rfl rfl rfl ?_
      refine AO.opB (O.buildSlice rfl rfl rfl (by rfl) (by rfl) (by rfl) (by rfl)) rfl rfl rfl ?_
      intro B1
      refine AO.g ?_
      (refine G.freezeSl 0 45 rfl rfl ⟨Nat.le_refl _, by unfold maxLen; omega⟩ ?_)
      refine G.unfull 45 rfl ?_
      refine AO.u ?_
      dsimp only [List.eraseIdx]
      (refine AO.append' (i := 0) rfl rfl rfl rfl (by rfl) (by rfl) rfl rfl rfl (by exact SrcA.ro TyD.ax (by rfl) (Nat.le_of_ble_eq_true rfl)) (by rfl) (by (unfold maxLen; omega)) (by omega) (by (dsimp only [List.set, List.append, List.cons_append, List.nil_append, splice, ofConst, AV.cells, List.map, List.map_cons, List.map_nil, List.take, List.drop, Nat.zero_add, Nat.add_zero, Nat.reduceAdd, Nat.reduceMul, Nat.zero_mul, Value.cells, List.toList_toArray, zerosA, List.replicate, List.flatten, List.append_nil]; done)) (fun _ => by (dsimp only [List.set]; done)) ?_)
      intro V2 hV2
      refine AO.op (O.assign rfl rfl) rfl rfl rfl ?_
      refine AO.nil ?_
      refine AQ.blockN ?_
      refine AQ.thenN ?_
      refine AW.region ?_
      refine AO.op (O.add rfl rfl rfl (by exact wI64 (by omega))) rfl rfl rfl ?_
      refine AO.op (O.move rfl rfl) rfl rfl rfl ?_
      refine AO.nil ?_
      have e1 : arB i (sF (wS (kf key)) nonce b c) ++ [AV.val (.int .u8 ((kf b i ^^^ z (i % 16)).toNat : Int))] = arB (i + 1) (sF (wS (kf key)) nonce b c) := arB_snoc (by rw [sF, hz])
      rw [e1]
      refine AQ.loopKN _ _ _ (by omega) (⟨i + 1, V2, .ro false 16 (arB 16 z), by omega, hV2, fun h => by rw [hz, show (i + 1) / 16 = i / 16 by omega], rfl, rfl, rfl⟩) (by repeat (first | exact envNil | refine envCons rfl ?_)) (by repeat (first | exact envNil | refine envCons rfl ?_)) (by repeat (first | exact subPnil | refine subPcons 0 rfl ?_))
  · skip
    obtain rfl : i = b.length := by omega
    refine AW.exit ?_
    refine AQ.thenX ?_
    refine AQ.loopX ?_
    refine AQ.blockX rfl ?_
    refine AQ.thenN ?_
    refine AW.seq ?_
    refine AW.region ?_
    refine AO.op (O.move rfl rfl) rfl rfl rfl ?_
    refine AO.op (O.assign rfl rfl) rfl rfl rfl ?_
    refine AO.nil ?_
    refine AQ.thenN ?_
    refine AW.ret ?_
    refine AQ.ret1 rfl rfl ⟨_, by repeat (first | exact List.Sublist.slnil | refine List.Sublist.cons_cons _ ?_), List.Perm.refl _⟩ (⟨_, rfl, hV, rfl⟩)
theorem rstr1_fn (key nonce b : List UInt8) (hk : key.length = 16) (hn13 : nonce.length ≤ 13) (hb : b.length ≤ 10000) : Sp Try.prog 49 [roB key, roB nonce, roB b, .val (.int .i64 1)] [] (NewRow 5 1 b.length (arB b.length (strF (wS (kf key)) nonce b))) := by
  have h := rstream_fn key nonce b 1 hk hn13 (by omega) hb
  have e : sF (wS (kf key)) nonce b 1 = strF (wS (kf key)) nonce b := by
    funext i; rw [sF, strF, Int.add_comm]
  rw [e] at h; exact h
theorem rstr0_fn (key nonce : List UInt8) (M : Nat → UInt8) (hk : key.length = 16) (hn13 : nonce.length ≤ 13) : Sp Try.prog 49 [roB key, roB nonce, roB (fnB 16 M), .val (.int .i64 0)] [] (NewRow 5 1 16 (arB 16 (tagF (wS (kf key)) nonce M))) := by
  have h := rstream_fn key nonce (fnB 16 M) 0 hk hn13 (by omega) (by rw [fnB_len]; omega)
  rw [fnB_len] at h
  have e : arB 16 (sF (wS (kf key)) nonce (fnB 16 M) 0) = arB 16 (tagF (wS (kf key)) nonce M) := arB_congr fun q hq => by
    rw [sF, tagF, kf_fnB hq, show q / 16 = 0 by omega, show q % 16 = q by omega]; rfl
  rw [e] at h; exact h
theorem arTk {T : Nat} (h : T ≤ 16) (f : Nat → UInt8) : (arB 16 f).take (T * 1) = arB T f := by
  have := arPre h f
  rw [show (T - 0) * 1 = T * 1 by omega] at this
  exact this
set_option maxHeartbeats 4000000 in
theorem rseal_fn (key nonce aad plain : List UInt8) (tag : Int) (ha : aad.length ≤ 1000000) (hp : plain.length ≤ 1000000) : Sp Try.prog 32 [roB key, roB nonce, roB aad, roB plain, .val (.int .i64 tag)] [] (Is (.tup [roB (sealL key nonce aad plain tag), .val (.int .i64 (sealE key nonce aad plain tag))])) := by
  refine Sp.enter Try.func32 rfl _ Try.ntmps32 rfl (fun w0 R0 => ?_)
  refine AW.seq ?_
  refine AW.region ?_
  refine AO.op (O.assign rfl rfl) rfl rfl rfl ?_
  refine AO.op (O.assign rfl rfl) rfl rfl rfl ?_
  refine AO.nil ?_
  refine AQ.thenN ?_
  refine AW.seq ?_
  refine AW.block ?_
  refine AW.seq ?_
  refine AW.region ?_
  refine AO.op (O.move rfl rfl) rfl rfl rfl ?_
  refine AO.op (O.move rfl rfl) rfl rfl rfl ?_
  refine AO.op (O.move rfl rfl) rfl rfl rfl ?_
  refine AO.op (O.call rfl Try.func27 rfl rfl rfl (rcvalid_fn key nonce _)) rfl rfl rfl ?_
  refine AO.op (O.not rfl rfl (by rfl)) rfl rfl rfl ?_
  refine AO.op (O.assign rfl rfl) rfl rfl rfl ?_
  refine AO.nil ?_
  refine AQ.thenN ?_
  refine AW.split rfl (fun h => ?_) (fun h => ?_) <;> (try simp only [decide_eq_true_eq, decide_eq_false_iff_not, beq_iff_eq, beq_eq_false_iff_ne, bne_iff_ne, bne_eq_false_iff_eq, Bool.not_eq_true', Bool.not_eq_false', Bool.not_eq_true, Bool.not_eq_false, ne_eq, Int.not_lt, Int.not_le, Bool.and_eq_true, Bool.or_eq_true, Bool.or_eq_false_iff, Bool.and_eq_false_imp, strOf_toList, Decidable.not_not] at h)
  · skip
    have hb : cvB key nonce tag = false := by simpa using h
    obtain ⟨e1, e2⟩ := seal_bad (aad := aad) (plain := plain) hb
    rw [e1, e2]
    refine AW.seq ?_
    refine AW.region ?_
    refine AO.op (O.assign rfl rfl) rfl rfl rfl ?_
    refine AO.op (O.assign rfl rfl) rfl rfl rfl ?_
    refine AO.nil ?_
    refine AQ.thenN ?_
    refine AW.ret ?_
    refine AQ.blockR ?_
    refine AQ.thenR ?_
    refine FnQ.coe (AQ.ret2 rfl rfl rfl ⟨_, List.nil_sublist _, .nil⟩ ⟨rfl, rfl⟩) (Coe.tup (by (repeat (first | exact CoeL.nil | refine CoeL.cons Coe.rfl ?_ | refine CoeL.cons Coe.nil ?_)); done)) (⟨rfl, rfl⟩)
  · skip
    obtain ⟨hk, hn7, hn13, ht4, ht16, ht2⟩ := cvB_bd h
    refine AW.seq ?_
    refine AW.region ?_
    refine AO.op (O.move rfl rfl) rfl rfl rfl ?_
    refine AO.op (O.lenR rfl rfl) rfl rfl rfl ?_
    refine AO.op (O.gtr rfl rfl rfl (by rfl)) rfl rfl rfl ?_
    refine AO.op (O.move rfl rfl) rfl rfl rfl ?_
    refine AO.opG rfl rfl rfl (fun hp => O.move rfl rfl) ?_
    refine AO.opG rfl rfl rfl (fun hp => OpW.force 23 rfl (by exact hp) (O.lenR rfl rfl)) ?_
    refine AO.opG rfl rfl rfl (fun hp => OpW.force 24 rfl (by exact hp) (O.gtr rfl rfl rfl (by rfl))) ?_
    refine AO.op (O.pickOr rfl rfl rfl rfl (fun h => by exact congrArg (fun b => !b) h)) rfl rfl rfl ?_
    refine AO.op (O.assign rfl rfl) rfl rfl rfl ?_
    refine AO.nil ?_
    refine AQ.thenN ?_
    refine AW.split rfl (fun h2 => ?_) (fun h2 => ?_) <;> (try simp only [decide_eq_true_eq, decide_eq_false_iff_not, beq_iff_eq, beq_eq_false_iff_ne, bne_iff_ne, bne_eq_false_iff_eq, Bool.not_eq_true', Bool.not_eq_false', Bool.not_eq_true, Bool.not_eq_false, ne_eq, Int.not_lt, Int.not_le, Bool.and_eq_true, Bool.or_eq_true, Bool.or_eq_false_iff, Bool.and_eq_false_imp, strOf_toList, Decidable.not_not] at h2)
    · skip
      have hb : sealOk aad plain = false := by
        simp only [sealOk, Bool.and_eq_false_iff, decide_eq_false_iff_not]
        omega
      obtain ⟨e1, e2⟩ := seal_long h hb
      rw [e1, e2]
      refine AW.seq ?_
      refine AW.region ?_
      refine AO.op (O.assign rfl rfl) rfl rfl rfl ?_
      refine AO.op (O.assign rfl rfl) rfl rfl rfl ?_
      refine AO.nil ?_
      refine AQ.thenN ?_
      refine AW.ret ?_
      refine AQ.blockR ?_
      refine AQ.thenR ?_
      refine FnQ.coe (AQ.ret2 rfl rfl rfl ⟨_, List.nil_sublist _, .nil⟩ ⟨rfl, rfl⟩) (Coe.tup (by (repeat (first | exact CoeL.nil | refine CoeL.cons Coe.rfl ?_ | refine CoeL.cons Coe.nil ?_)); done)) (⟨rfl, rfl⟩)
    · skip
      have hb : sealOk aad plain = true := by
        simp only [sealOk, Bool.and_eq_true, decide_eq_true_eq]
        omega
      obtain ⟨e1, e2⟩ := seal_good h hb
      rw [e1, e2]
      obtain ⟨T, hT⟩ : ∃ T : Nat, T = tag.toNat := ⟨_, rfl⟩
      rw [← hT]
      have hT' : tag = (T : Int) := by omega
      have ha' : aad.length ≤ 10000 := by omega
      have hp' : plain.length ≤ 10000 := by omega
      obtain ⟨M, hM⟩ : ∃ M, M = macF (wS (kf key)) nonce aad plain tag := ⟨_, rfl⟩
      have hmac := mac_fn key nonce aad plain tag hk hn13 ⟨ht4, ht16⟩ ha' hp'
      rw [← hM] at hmac ⊢
      refine AW.skip ?_
      refine AQ.blockN ?_
      refine AQ.thenN ?_
      refine AW.seq ?_
      refine AW.region ?_
      refine AO.op (O.move rfl rfl) rfl rfl rfl ?_
      refine AO.op (O.move rfl rfl) rfl rfl rfl ?_
      refine AO.op (O.move rfl rfl) rfl rfl rfl ?_
      refine AO.opRow (O.call rfl Try.func49 rfl rfl rfl (rstr1_fn key nonce plain hk hn13 hp')) rfl rfl rfl ?_
      intro V1 hV1
      refine AO.op (O.move rfl rfl) rfl rfl rfl ?_
      refine AO.op (O.move rfl rfl) rfl rfl rfl ?_
      refine AO.op (O.move rfl rfl) rfl rfl rfl ?_
      refine AO.op (O.move rfl rfl) rfl rfl rfl ?_
      refine AO.op (O.move rfl rfl) rfl rfl rfl ?_
      refine AO.op (O.move rfl rfl) rfl rfl rfl ?_
      refine AO.op (O.move rfl rfl) rfl rfl rfl ?_
      refine AO.op (O.call rfl Try.func50 rfl rfl rfl (hmac)) rfl rfl rfl ?_
      refine AO.opRow (O.call rfl Try.func49 rfl rfl rfl (rstr0_fn key nonce M hk hn13)) rfl rfl rfl ?_
      intro V2 hV2
      refine AO.g ?_
      refine G.freezeRow 0 rfl [39] (by repeat (first | exact frNil | refine frCons rfl ?_)) ?_
      refine AO.u ?_
      dsimp only [List.map, List.eraseIdx, List.cons_append, List.nil_append]
      refine AO.op (O.move rfl rfl) rfl rfl rfl ?_
      refine AO.op (O.sliceTo (k := T) rfl rfl rfl (by omega) (by omega) (by exact arTk (by omega) _)) rfl rfl rfl ?_
      (refine AO.append' (i := 0) rfl rfl rfl rfl (by rfl) (by rfl) rfl rfl rfl (by exact SrcA.ro TyD.ax (by (simp; done)) (Nat.le_of_ble_eq_true rfl)) (by exact arB_one _ _) (by (unfold maxLen; omega)) (by omega) (by (dsimp only [List.set, List.append, List.cons_append, List.nil_append, splice, ofConst, AV.cells, List.map, List.map_cons, List.map_nil, List.take, List.drop, Nat.zero_add, Nat.add_zero, Nat.reduceAdd, Nat.reduceMul, Nat.zero_mul, Value.cells, List.toList_toArray, zerosA, List.replicate, List.flatten, List.append_nil]; done)) (fun _ => by (dsimp only [List.set]; done)) ?_)
      intro V3 hV3
      refine AO.g ?_
      refine G.freezeRow 0 rfl [42] (by repeat (first | exact frNil | refine frCons rfl ?_)) ?_
      refine AO.u ?_
      dsimp only [List.map, List.eraseIdx, List.cons_append, List.nil_append]
      refine AO.op (O.assign rfl rfl) rfl rfl rfl ?_
      refine AO.op (O.assign rfl rfl) rfl rfl rfl ?_
      refine AO.nil ?_
      refine AQ.thenN ?_
      refine AW.ret ?_
      refine AQ.g ?_
      refine G.re 10 (roB (fnB plain.length (strF (wK key) nonce plain) ++ fnB T (tagF (wK key) nonce M))) (congrArg some (roB_app2 _ T _ _)) ?_
      refine AQ.u ?_
      refine FnQ.coe (AQ.ret2 rfl rfl rfl ⟨_, List.nil_sublist _, .nil⟩ ⟨rfl, rfl⟩) (Coe.tup (by (repeat (first | exact CoeL.nil | refine CoeL.cons Coe.rfl ?_)); done)) (⟨rfl, rfl⟩)
end Go.Proofs.Ytochjihddnkhcaa.By

namespace Go.Proofs.Ytochjihddnkhcaa.By
open Go.RowKit L A
set_option linter.unusedVariables false
def cwK : List UInt8 := [192, 193, 194, 195, 196, 197, 198, 199, 200, 201, 202, 203, 204, 205, 206, 207]
def cwN : List UInt8 := [0, 0, 0, 3, 2, 1, 0, 160, 161, 162, 163, 164, 165]
def cwA : List UInt8 := [0, 1, 2, 3, 4, 5, 6, 7]
def cwP : List UInt8 := [8, 9, 10, 11, 12, 13, 14, 15, 16, 17, 18, 19, 20, 21, 22, 23, 24, 25, 26, 27, 28, 29, 30]
def cwW : List UInt8 := [192, 193, 194, 195, 196, 197, 198, 199, 200, 201, 202, 203, 204, 205, 206, 207, 124, 74, 72, 136, 184, 143, 142, 79, 112, 70, 68, 132, 188, 139, 138, 75, 67, 52, 251, 237, 251, 187, 117, 162, 139, 253, 49, 38, 55, 118, 187, 109, 127, 222, 199, 119, 132, 101, 178, 213, 15, 152, 131, 243, 56, 238, 56, 158, 95, 217, 204, 112, 219, 188, 126, 165, 212, 36, 253, 86, 236, 202, 197, 200, 59, 127, 36, 190, 224, 195, 90, 27, 52, 231, 167, 77, 216, 45, 98, 133, 195, 213, 179, 223, 35, 22, 233, 196, 23, 241, 78, 137, 207, 220, 44, 12, 5, 164, 77, 85, 38, 178, 164, 145, 49, 67, 234, 24, 254, 159, 198, 20, 94, 16, 183, 238, 120, 162, 19, 127, 73, 225, 249, 103, 183, 126, 63, 115, 182, 101, 56, 71, 206, 199, 43, 56, 135, 38, 210, 95, 48, 88, 237, 44, 234, 48, 73, 67, 36, 247, 98, 123, 163, 209, 176, 36, 147, 137, 93, 8]
def cwA1 : List (List UInt8) := [[193, 193, 194, 195, 199, 199, 199, 199, 104, 104, 104, 104, 104, 104, 206, 206], [19, 225, 250, 142, 69, 107, 114, 140, 214, 32, 95, 188, 61, 42, 239, 176], [16, 26, 78, 15, 35, 195, 34, 74, 1, 201, 212, 39, 79, 31, 75, 118], [242, 168, 251, 36, 113, 90, 174, 61, 85, 216, 0, 47, 137, 87, 108, 187], [6, 120, 24, 226, 67, 27, 70, 6, 242, 88, 45, 83, 21, 208, 76, 54], [210, 35, 64, 114, 219, 238, 203, 93, 111, 13, 174, 206, 2, 20, 31, 73], [21, 60, 176, 161, 168, 1, 220, 131, 12, 225, 218, 1, 223, 77, 197, 161], [86, 206, 144, 241, 62, 88, 159, 246, 227, 190, 13, 198, 5, 33, 32, 56], [73, 16, 208, 149, 248, 52, 130, 242, 85, 243, 19, 77, 136, 218, 181, 237], [192, 188, 30, 197, 164, 210, 168, 119, 100, 109, 25, 110, 22, 197, 251, 127], [80, 133, 157, 145, 109, 203, 109, 221, 224, 119, 194, 209, 212, 236, 159, 151]]
def cwA0 : List (List UInt8) := [[193, 193, 194, 195, 199, 199, 199, 199, 104, 104, 104, 104, 104, 104, 206, 207], [18, 224, 249, 140, 69, 107, 114, 140, 214, 32, 95, 188, 61, 42, 239, 176], [99, 174, 250, 200, 94, 190, 165, 176, 181, 14, 167, 147, 100, 45, 82, 111], [143, 46, 201, 216, 58, 152, 98, 93, 7, 118, 230, 183, 83, 168, 236, 26], [95, 13, 3, 114, 39, 100, 226, 10, 137, 78, 143, 133, 125, 9, 182, 54], [13, 166, 65, 206, 28, 195, 229, 181, 126, 168, 94, 11, 80, 67, 195, 229], [133, 111, 138, 98, 248, 236, 109, 154, 146, 125, 222, 175, 247, 156, 143, 82], [100, 147, 46, 36, 103, 41, 25, 145, 16, 145, 84, 2, 136, 129, 245, 202], [120, 22, 141, 70, 33, 57, 154, 224, 98, 225, 197, 6, 248, 9, 13, 194], [96, 41, 174, 102, 177, 233, 117, 191, 119, 136, 251, 63, 172, 43, 49, 206], [58, 46, 70, 200, 236, 51, 165, 72, 86, 32, 84, 44, 2, 44, 192, 125]]
def cwB0 : List (List UInt8) := [[153, 193, 194, 195, 199, 199, 199, 199, 104, 104, 104, 104, 104, 104, 206, 216], [206, 157, 73, 224, 69, 107, 114, 140, 214, 32, 95, 188, 61, 42, 239, 176], [231, 236, 184, 14, 219, 59, 49, 161, 23, 243, 248, 49, 190, 72, 237, 208], [64, 38, 163, 147, 4, 146, 74, 16, 92, 74, 175, 162, 54, 82, 159, 235], [12, 44, 88, 148, 66, 83, 136, 6, 128, 186, 230, 13, 8, 97, 206, 146], [49, 134, 225, 90, 22, 184, 233, 84, 154, 62, 224, 90, 56, 127, 210, 213], [0, 241, 196, 6, 107, 84, 180, 109, 201, 197, 175, 48, 173, 207, 138, 56], [221, 11, 245, 167, 56, 119, 48, 22, 53, 137, 193, 138, 190, 219, 255, 148], [153, 138, 21, 127, 206, 150, 123, 127, 15, 104, 200, 23, 247, 244, 48, 73], [9, 168, 192, 96, 218, 24, 128, 64, 58, 12, 196, 156, 179, 95, 178, 48], [235, 157, 85, 71, 115, 9, 85, 171, 35, 30, 10, 45, 254, 75, 144, 214]]
def cwS2 : List (List UInt8) := [[43, 84, 151, 133, 181, 207, 151, 105, 237, 208, 192, 230, 50, 134, 94, 25], [110, 181, 59, 3, 86, 197, 57, 54, 103, 225, 78, 94, 156, 229, 11, 129], [180, 129, 136, 198, 193, 231, 231, 79, 13, 233, 189, 131, 190, 119, 124, 99], [88, 21, 60, 248, 242, 165, 51, 32, 254, 109, 165, 179, 19, 19, 134, 44], [246, 196, 63, 44, 147, 192, 128, 223, 98, 244, 52, 99, 83, 54, 203, 15], [4, 12, 118, 54, 247, 42, 148, 38, 159, 70, 91, 255, 11, 79, 4, 149], [27, 151, 168, 90, 234, 194, 43, 222, 226, 134, 99, 182, 180, 96, 135, 129], [216, 91, 62, 121, 86, 58, 144, 55, 174, 32, 26, 131, 195, 95, 232, 125], [90, 104, 19, 138, 238, 102, 249, 236, 248, 215, 24, 2, 44, 110, 199, 155], [61, 69, 200, 40, 52, 220, 24, 116, 12, 11, 191, 249, 243, 100, 105, 141], [205, 182, 65, 30, 60, 220, 155, 79, 93, 146, 88, 182, 158, 231, 240, 145]]
def cwS3 : List (List UInt8) := [[5, 126, 137, 214, 244, 20, 83, 135, 133, 74, 128, 110, 70, 63, 40, 73], [73, 185, 21, 116, 126, 45, 142, 128, 106, 222, 202, 218, 116, 159, 88, 158], [57, 51, 237, 26, 217, 94, 226, 228, 109, 116, 22, 35, 188, 52, 180, 33], [9, 72, 31, 191, 108, 65, 233, 202, 99, 2, 182, 40, 18, 131, 223, 38], [122, 224, 208, 75, 116, 179, 102, 172, 162, 51, 237, 132, 185, 177, 62, 172], [231, 17, 145, 202, 128, 178, 186, 186, 226, 87, 29, 130, 32, 168, 82, 19], [112, 165, 196, 17, 59, 25, 227, 59, 20, 154, 10, 138, 192, 96, 223, 158], [172, 228, 27, 3, 54, 0, 68, 149, 75, 196, 197, 30, 244, 100, 218, 42], [129, 83, 38, 82, 122, 29, 41, 205, 116, 20, 50, 17, 0, 76, 73, 63], [15, 42, 73, 62, 79, 191, 125, 140, 137, 89, 64, 77, 253, 140, 175, 222], [156, 56, 64, 94, 160, 60, 27, 201, 4, 181, 139, 64, 199, 108, 162, 235]]
def cwS4 : List (List UInt8) := [[68, 224, 152, 134, 120, 228, 195, 14, 204, 124, 65, 139, 11, 161, 108, 36], [68, 43, 125, 35, 255, 167, 78, 88, 93, 8, 87, 96, 193, 54, 91, 131], [38, 150, 37, 4, 152, 160, 75, 221, 137, 203, 35, 220, 48, 86, 7, 128], [90, 85, 208, 50, 30, 187, 119, 58, 108, 198, 179, 22, 174, 153, 64, 166], [84, 59, 46, 102, 210, 133, 207, 200, 173, 163, 56, 35, 146, 142, 229, 120], [98, 223, 66, 45, 101, 33, 25, 106, 247, 251, 106, 10, 215, 30, 170, 112], [195, 201, 19, 103, 220, 114, 155, 27, 127, 11, 10, 107, 217, 245, 166, 154], [70, 27, 62, 107, 237, 139, 213, 30, 109, 110, 206, 171, 131, 72, 135, 124], [54, 166, 237, 150, 0, 148, 118, 246, 7, 198, 126, 39, 255, 176, 220, 52], [49, 50, 202, 169, 217, 214, 64, 148, 51, 139, 156, 61, 132, 130, 224, 137], [45, 198, 151, 228, 17, 202, 131, 168, 96, 194, 196, 6, 204, 170, 84, 47]]
def cwA2 : List (List UInt8) := [[193, 193, 194, 195, 199, 199, 199, 199, 104, 104, 104, 104, 104, 104, 206, 205], [37, 215, 160, 226, 69, 107, 114, 140, 214, 32, 95, 188, 61, 42, 239, 176], [148, 88, 12, 201, 162, 66, 186, 83, 204, 133, 85, 234, 78, 232, 189, 128], [126, 118, 102, 64, 245, 57, 151, 215, 60, 10, 152, 138, 171, 149, 28, 100], [145, 135, 100, 172, 48, 34, 199, 125, 90, 192, 72, 117, 150, 37, 22, 34], [77, 166, 60, 218, 235, 240, 194, 211, 174, 29, 186, 13, 129, 95, 206, 222], [120, 47, 8, 163, 193, 125, 80, 101, 3, 208, 2, 86, 73, 32, 44, 172], [154, 245, 72, 59, 61, 179, 80, 12, 120, 80, 145, 136, 85, 202, 134, 102], [48, 217, 46, 183, 101, 13, 210, 222, 26, 189, 140, 121, 242, 100, 212, 74], [110, 174, 66, 79, 59, 15, 108, 148, 49, 76, 118, 234, 101, 201, 225, 91], [117, 70, 113, 122, 198, 222, 154, 255, 100, 12, 156, 6, 222, 109, 13, 143]]
def cwOut : List UInt8 := [88, 140, 151, 154, 97, 198, 99, 210, 240, 102, 208, 194, 192, 249, 137, 128, 109, 95, 107, 97, 218, 195, 132, 23, 232, 209, 44, 253, 249, 38, 224]
theorem cw_w : ∀ q, q < 176 → wK cwK q = cwW.getD q 0 := wS_lit (by decide +kernel) (by decide +kernel)
theorem cw_enc {f : Nat → UInt8} {ST : List (List UInt8)} (h0 : ∀ q, q < 16 → f q ^^^ cwW.getD q 0 = kf (ST.getD 0 []) q) (h : ∀ j, j < 10 → ∀ q, q < 16 → eStep cwW (ST.getD j []) j q = kf (ST.getD (j + 1) []) q) : ∀ q, q < 16 → enc (wK cwK) f q = kf (ST.getD 10 []) q :=
  enc_lit cw_w h0 h 10 (Nat.le_refl _)
theorem cw_abs {x : Nat → UInt8} {l X : List UInt8} {ST : List (List UInt8)} (hx : ∀ q, q < 16 → x q = kf X q) (hl : l ≠ []) (h0 : ∀ q, q < 16 → (kf X q ^^^ kf l q) ^^^ cwW.getD q 0 = kf (ST.getD 0 []) q) (h : ∀ j, j < 10 → ∀ q, q < 16 → eStep cwW (ST.getD j []) j q = kf (ST.getD (j + 1) []) q) :
    ∀ q, q < 16 → absorb (wK cwK) x l q = absorb (wK cwK) (kf (ST.getD 10 [])) (l.drop 16) q := fun q hq => by
  rw [absorb_cons hl]
  exact absorb_congr _ _ _ _ (Nat.le_refl _) (cw_enc (f := fun q => x q ^^^ kf l q) (fun q hq => by rw [hx q hq]; exact h0 q hq) h) q hq
def cwB : List UInt8 := fnB 16 (blkF (fstB cwA cwN 8) cwN cwP.length)
theorem cw_m1 : ∀ q, q < 16 → absorb (wK cwK) (fun _ => 0) cwB q = kf (cwB0.getD 10 []) q := fun q hq => by
  rw [cw_abs (x := fun _ => 0) (X := []) (ST := cwB0) (fun q _ => rfl) (by decide +kernel) (by decide +kernel) (by decide +kernel) q hq, show cwB.drop 16 = [] by decide +kernel, absorb_nil]
theorem cw_m2 : ∀ q, q < 16 → absorb (wK cwK) (absorb (wK cwK) (fun _ => 0) cwB) (headA cwA) q = kf (cwS2.getD 10 []) q := fun q hq => by
  rw [cw_abs (X := cwB0.getD 10 []) (ST := cwS2) cw_m1 (by decide +kernel) (by decide +kernel) (by decide +kernel) q hq, show (headA cwA).drop 16 = [] by decide +kernel, absorb_nil]
theorem cw_m3 : ∀ q, q < 16 → absorb (wK cwK) (absorb (wK cwK) (absorb (wK cwK) (fun _ => 0) cwB) (headA cwA)) cwP q = kf (cwS4.getD 10 []) q := fun q hq => by
  rw [cw_abs (X := cwS2.getD 10 []) (ST := cwS3) cw_m2 (by decide +kernel) (by decide +kernel) (by decide +kernel) q hq]
  rw [cw_abs (X := cwS3.getD 10 []) (l := cwP.drop 16) (ST := cwS4) (fun q _ => rfl) (by decide +kernel) (by decide +kernel) (by decide +kernel) q hq, show (cwP.drop 16).drop 16 = [] by decide +kernel, absorb_nil]
theorem cw_mac : ∀ q, q < 16 → macF (wK cwK) cwN cwA cwP 8 q = kf (cwS4.getD 10 []) q := fun q hq => by
  rw [macF, if_neg (by decide)]; exact cw_m3 q hq
theorem cw_tag : ∀ q, q < 16 → tagF (wK cwK) cwN (macF (wK cwK) cwN cwA cwP 8) q = kf (cwS4.getD 10 []) q ^^^ kf (cwA0.getD 10 []) q := fun q hq => by
  rw [tagF, cw_mac q hq, cw_enc (ST := cwA0) (by decide +kernel) (by decide +kernel) q hq]
theorem cw_str : ∀ q, q < 23 → strF (wK cwK) cwN cwP q = kf cwP q ^^^ (if q < 16 then kf (cwA1.getD 10 []) q else kf (cwA2.getD 10 []) (q % 16)) := fun q hq => by
  rw [strF]
  by_cases h : q < 16
  · rw [if_pos h, show q / 16 = 0 by omega, show q % 16 = q by omega, cw_enc (ST := cwA1) (by decide +kernel) (by decide +kernel) q h]
  · rw [if_neg h, show q / 16 = 1 by omega, cw_enc (ST := cwA2) (by decide +kernel) (by decide +kernel) (q % 16) (by omega)]
theorem cw_seal : sealL cwK cwN cwA cwP 8 = cwOut := by
  rw [(seal_good (by decide +kernel) (by decide +kernel)).1]
  rw [show cwP.length = 23 from rfl, fnB_congr cw_str, show (8 : Int).toNat = 8 from rfl, fnB_congr fun q hq => cw_tag q (by omega)]
  decide +kernel
theorem cw_err : sealE cwK cwN cwA cwP 8 = 0 := (seal_good (by decide +kernel) (by decide +kernel)).2
end Go.Proofs.Ytochjihddnkhcaa.By

namespace Go.Proofs.Ytochjihddnkhcaa.By
open Go.RowKit L A
set_option linter.unusedVariables false
set_option linter.unusedSimpArgs false
attribute [local irreducible] AW AQ AO
attribute [local simp] arB_len
theorem cwK_eq : AV.ro false 16 (arB 16 fun q => u8 (192 + (q : Int))) = roB cwK := by
  rw [← roB_fnB]; exact congrArg roB (by decide +kernel)
theorem cwA_eq : AV.ro false 8 (arB 8 fun q => u8 (q : Int)) = roB cwA := by
  rw [← roB_fnB]; exact congrArg roB (by decide +kernel)
theorem cwP_eq : AV.ro false 23 (arB 23 fun q => u8 (((8 + q : Nat) : Nat) : Int)) = roB cwP := by
  rw [← roB_fnB]; exact congrArg roB (by decide +kernel)
theorem cw_fn : Sp Try.prog 31 [roB cwK, roB cwN, roB cwA, roB cwP, .val (.int .i64 8)] [] (Is (.tup [roB [88, 140, 151, 154, 97, 198, 99, 210, 240, 102, 208, 194, 192, 249, 137, 128, 109, 95, 107, 97, 218, 195, 132, 23, 232, 209, 44, 253, 249, 38, 224], .val (.int .i64 0)])) := by
  have h := seal_fn cwK cwN cwA cwP 8 (by decide) (by decide)
  rw [cw_seal, cw_err] at h
  exact h
theorem cwc_fn : Sp Try.prog 28 [.val (.int .i64 8), .val (.int .i64 23)] [] (Is (.val (.int .i64 7))) := by
  have h := calls_fn 8 23
  rw [show callsN 8 23 = 7 from rfl] at h
  exact h
set_option maxRecDepth 20000 in
set_option maxHeartbeats 4000000 in
theorem awake07_fn : Sp Try.prog 30 [] [] (Is (.val (.bool true))) := by
  refine Sp.enter Try.func30 rfl _ Try.ntmps30 rfl (fun w0 R0 => ?_)
  refine AW.seq ?_
  refine AW.region ?_
  refine AO.op (O.assign rfl rfl) rfl rfl rfl ?_
  refine AO.nil ?_
  refine AQ.thenN ?_
  refine AW.seq ?_
  refine AW.region ?_
  refine AO.op (O.assign rfl rfl) rfl rfl rfl ?_
  refine AO.op (O.assign rfl rfl) rfl rfl rfl ?_
  refine AO.op (O.assign rfl rfl) rfl rfl rfl ?_
  refine AO.nil ?_
  refine AQ.thenN ?_
  refine AW.seq ?_
  refine AW.seq ?_
  refine AW.region ?_
  refine AO.op (O.move rfl rfl) rfl rfl rfl ?_
  refine AO.nil ?_
  refine AQ.thenN ?_
  refine AW.block ?_
  refine AW.g ?_
  refine G.nilRow 5 1 ?_
  refine AW.u ?_
  refine AW.loopK [(2, _), (3, _)] (fun nn E H => ∃ (i : Nat) (V : Value), (i ≤ 16) ∧ (V.oneCell' = true) ∧ nn = 16 - i ∧ E = [(1, .val V), (8, .val (.int .i64 (i : Int)))] ∧ H = [.row V 5 1 i (arB i fun q => u8 (192 + (q : Int)))]) _ (⟨0, _, by omega, rfl, rfl, rfl, rfl⟩) (by repeat (first | exact envNil | refine envCons rfl ?_)) (by repeat (first | exact envNil | refine envCons rfl ?_)) (by repeat (first | exact subPnil | refine subPcons 0 rfl ?_)) ?_
  rintro nn E H ⟨i, V, hi, hV, rfl, rfl, rfl⟩
  dsimp only [List.cons_append, List.nil_append]
  refine AW.seq ?_
  refine AW.region ?_
  refine AO.op (O.lss rfl rfl rfl (by rfl)) rfl rfl rfl ?_
  refine AO.nil ?_
  refine AQ.thenN ?_
  refine AW.seq ?_
  refine AW.split rfl (fun h => ?_) (fun h => ?_) <;> (try simp only [decide_eq_true_eq, decide_eq_false_iff_not, beq_iff_eq, beq_eq_false_iff_ne, bne_iff_ne, bne_eq_false_iff_eq, Bool.not_eq_true', Bool.not_eq_false', Bool.not_eq_true, Bool.not_eq_false, ne_eq, Int.not_lt, Int.not_le, Bool.and_eq_true, Bool.or_eq_true, Bool.or_eq_false_iff, Bool.and_eq_false_imp, strOf_toList, Decidable.not_not] at h)
  · skip
    refine AW.skip ?_
    refine AQ.thenN ?_
    refine AW.seq ?_
    refine AW.block ?_
    refine AW.seq ?_
    refine AW.region ?_
    refine AO.op (O.move rfl rfl) rfl rfl rfl ?_
    refine AO.op (O.assign rfl rfl) rfl rfl rfl ?_
    refine AO.nil ?_
    refine AQ.thenN ?_
    refine AW.region ?_
    refine AO.op (O.move rfl rfl) rfl rfl rfl ?_
    refine AO.op (O.move rfl rfl) rfl rfl rfl ?_
    refine AO.op (O.add rfl rfl rfl (by exact wI64 (by omega))) rfl rfl rfl ?_
    refine AO.op (O.conv rfl rfl wU8any) rfl rfl rfl ?_
    refine AO.opB (O.buildSlice rfl rfl rfl (by rfl) (by rfl) (by rfl) (by rfl)) rfl rfl rfl ?_
    intro B1
    refine AO.g ?_
    (refine G.freezeSl 0 15 rfl rfl ⟨Nat.le_refl _, by unfold maxLen; omega⟩ ?_)
    refine G.unfull 15 rfl ?_
    refine AO.u ?_
    dsimp only [List.eraseIdx]
    (refine AO.append' (i := 0) rfl rfl rfl rfl (by rfl) (by rfl) rfl rfl rfl (by exact SrcA.ro TyD.ax (by rfl) (Nat.le_of_ble_eq_true rfl)) (by rfl) (by (unfold maxLen; omega)) (by omega) (by (dsimp only [List.set, List.append, List.cons_append, List.nil_append, roB_cells, roI_cells, roO_cells, splice, ofConst, AV.cells, List.map, List.map_cons, List.map_nil, List.take, List.drop, Nat.zero_add, Nat.add_zero, Nat.reduceAdd, Nat.reduceMul, Nat.zero_mul, Value.cells, List.toList_toArray, zerosA, List.replicate, List.flatten, List.append_nil]; done)) (fun _ => by (dsimp only [List.set]; done)) ?_)
    intro V2 hV2
    refine AO.op (O.assign rfl rfl) rfl rfl rfl ?_
    refine AO.nil ?_
    refine AQ.blockN ?_
    refine AQ.thenN ?_
    refine AW.region ?_
    refine AO.op (O.add rfl rfl rfl (by exact wI64 (by omega))) rfl rfl rfl ?_
    refine AO.op (O.move rfl rfl) rfl rfl rfl ?_
    refine AO.nil ?_
    rw [show arB i (fun q => u8 (192 + (q : Int))) ++ [AV.val (.int .u8 ((u8 (192 + (i : Int))).toNat : Int))] = arB (i + 1) (fun q => u8 (192 + (q : Int))) from arB_snoc (f := fun q => u8 (192 + (q : Int))) rfl]
    refine AQ.loopKN _ _ _ (by omega) (⟨i + 1, V2, by omega, hV2, rfl, rfl, rfl⟩) (by repeat (first | exact envNil | refine envCons rfl ?_)) (by repeat (first | exact envNil | refine envCons rfl ?_)) (by repeat (first | exact subPnil | refine subPcons 0 rfl ?_))
  · skip
    obtain rfl : i = 16 := by omega
    refine AW.g ?_
    refine G.freezeRow 0 rfl [1] (by repeat (first | exact frNil | refine frCons rfl ?_)) ?_
    refine AW.u ?_
    try dsimp only [List.map, List.eraseIdx, List.cons_append, List.nil_append]
    refine AW.g ?_
    refine G.re 1 (roB cwK) (congrArg some cwK_eq) ?_
    refine AW.u ?_
    refine AW.exit ?_
    refine AQ.thenX ?_
    refine AQ.loopX ?_
    refine AQ.blockX rfl ?_
    refine AQ.thenN ?_
    refine AW.seq ?_
    refine AW.seq ?_
    refine AW.region ?_
    refine AO.op (O.move rfl rfl) rfl rfl rfl ?_
    refine AO.nil ?_
    refine AQ.thenN ?_
    refine AW.block ?_
    refine AW.g ?_
    refine G.nilRow 5 1 ?_
    refine AW.u ?_
    refine AW.g ?_
    refine G.nilRow 5 1 ?_
    refine AW.u ?_
    refine AW.loopK [(1, _)] (fun nn E H => ∃ (a : Nat) (p : Nat) (V : Value) (W : Value), (a ≤ 8 ∧ p ≤ 23 ∧ (a < 8 → p = 0)) ∧ (V.oneCell' = true) ∧ (W.oneCell' = true) ∧ nn = 31 - a - p ∧ E = [(2, .val V), (3, .val W), (18, .val (.int .i64 ((a + p : Nat) : Int)))] ∧ H = [.row V 5 1 a (arB a fun q => u8 (q : Int)), .row W 5 1 p (arB p fun q => u8 ((8 + q : Nat) : Int))]) _ (⟨0, 0, _, _, by omega, rfl, rfl, rfl, rfl, rfl⟩) (by repeat (first | exact envNil | refine envCons rfl ?_)) (by repeat (first | exact envNil | refine envCons rfl ?_)) (by repeat (first | exact subPnil | refine subPcons 0 rfl ?_)) ?_
    rintro nn E H ⟨a, p, V, W, hap, hV, hW, rfl, rfl, rfl⟩
    dsimp only [List.cons_append, List.nil_append]
    refine AW.seq ?_
    refine AW.region ?_
    refine AO.op (O.lss rfl rfl rfl (by rfl)) rfl rfl rfl ?_
    refine AO.nil ?_
    refine AQ.thenN ?_
    refine AW.seq ?_
    refine AW.split rfl (fun h1 => ?_) (fun h1 => ?_) <;> (try simp only [decide_eq_true_eq, decide_eq_false_iff_not, beq_iff_eq, beq_eq_false_iff_ne, bne_iff_ne, bne_eq_false_iff_eq, Bool.not_eq_true', Bool.not_eq_false', Bool.not_eq_true, Bool.not_eq_false, ne_eq, Int.not_lt, Int.not_le, Bool.and_eq_true, Bool.or_eq_true, Bool.or_eq_false_iff, Bool.and_eq_false_imp, strOf_toList, Decidable.not_not] at h1)
    · skip
      refine AW.skip ?_
      refine AQ.thenN ?_
      refine AW.seq ?_
      refine AW.block ?_
      refine AW.seq ?_
      refine AW.region ?_
      refine AO.op (O.move rfl rfl) rfl rfl rfl ?_
      refine AO.op (O.assign rfl rfl) rfl rfl rfl ?_
      refine AO.nil ?_
      refine AQ.thenN ?_
      refine AW.seq ?_
      refine AW.region ?_
      refine AO.op (O.move rfl rfl) rfl rfl rfl ?_
      refine AO.op (O.lss rfl rfl rfl (by rfl)) rfl rfl rfl ?_
      refine AO.nil ?_
      refine AQ.thenN ?_
      refine AW.split rfl (fun h2 => ?_) (fun h2 => ?_) <;> (try simp only [decide_eq_true_eq, decide_eq_false_iff_not, beq_iff_eq, beq_eq_false_iff_ne, bne_iff_ne, bne_eq_false_iff_eq, Bool.not_eq_true', Bool.not_eq_false', Bool.not_eq_true, Bool.not_eq_false, ne_eq, Int.not_lt, Int.not_le, Bool.and_eq_true, Bool.or_eq_true, Bool.or_eq_false_iff, Bool.and_eq_false_imp, strOf_toList, Decidable.not_not] at h2)
      · skip
        obtain rfl : p = 0 := by omega
        refine AW.region ?_
        refine AO.op (O.move rfl rfl) rfl rfl rfl ?_
        refine AO.op (O.move rfl rfl) rfl rfl rfl ?_
        refine AO.op (O.conv rfl rfl wU8any) rfl rfl rfl ?_
        refine AO.opB (O.buildSlice rfl rfl rfl (by rfl) (by rfl) (by rfl) (by rfl)) rfl rfl rfl ?_
        intro B3
        refine AO.g ?_
        (refine G.freezeSl 0 26 rfl rfl ⟨Nat.le_refl _, by unfold maxLen; omega⟩ ?_)
        refine G.unfull 26 rfl ?_
        refine AO.u ?_
        dsimp only [List.eraseIdx]
        (refine AO.append' (i := 0) rfl rfl rfl rfl (by rfl) (by rfl) rfl rfl rfl (by exact SrcA.ro TyD.ax (by rfl) (Nat.le_of_ble_eq_true rfl)) (by rfl) (by (unfold maxLen; omega)) (by omega) (by (dsimp only [List.set, List.append, List.cons_append, List.nil_append, roB_cells, roI_cells, roO_cells, splice, ofConst, AV.cells, List.map, List.map_cons, List.map_nil, List.take, List.drop, Nat.zero_add, Nat.add_zero, Nat.reduceAdd, Nat.reduceMul, Nat.zero_mul, Value.cells, List.toList_toArray, zerosA, List.replicate, List.flatten, List.append_nil]; done)) (fun _ => by (dsimp only [List.set]; done)) ?_)
        intro V4 hV4
        refine AO.op (O.assign rfl rfl) rfl rfl rfl ?_
        refine AO.nil ?_
        refine AQ.blockN ?_
        refine AQ.thenN ?_
        refine AW.region ?_
        refine AO.op (O.add rfl rfl rfl (by exact wI64 (by omega))) rfl rfl rfl ?_
        refine AO.op (O.move rfl rfl) rfl rfl rfl ?_
        refine AO.nil ?_
        have e1 : arB a (fun q => u8 (q : Int)) ++ [AV.val (.int .u8 ((u8 (a : Int)).toNat : Int))] = arB (a + 1) (fun q => u8 (q : Int)) := arB_snoc (f := fun q => u8 (q : Int)) rfl
        rw [e1]
        refine AQ.loopKN _ _ _ (by omega) (⟨a + 1, 0, V4, W, by omega, hV4, hW, rfl, rfl, rfl⟩) (by repeat (first | exact envNil | refine envCons rfl ?_)) (by repeat (first | exact envNil | refine envCons rfl ?_)) (by repeat (first | exact subPnil | refine subPcons 0 rfl ?_))
      · skip
        obtain rfl : a = 8 := by omega
        refine AW.region ?_
        refine AO.op (O.move rfl rfl) rfl rfl rfl ?_
        refine AO.op (O.move rfl rfl) rfl rfl rfl ?_
        refine AO.op (O.conv rfl rfl wU8any) rfl rfl rfl ?_
        refine AO.opB (O.buildSlice rfl rfl rfl (by rfl) (by rfl) (by rfl) (by rfl)) rfl rfl rfl ?_
        intro B5
        refine AO.g ?_
        (refine G.freezeSl 0 31 rfl rfl ⟨Nat.le_refl _, by unfold maxLen; omega⟩ ?_)
        refine G.unfull 31 rfl ?_
        refine AO.u ?_
        dsimp only [List.eraseIdx]
        (refine AO.append' (i := 1) rfl rfl rfl rfl (by rfl) (by rfl) rfl rfl rfl (by exact SrcA.ro TyD.ax (by rfl) (Nat.le_of_ble_eq_true rfl)) (by rfl) (by (unfold maxLen; omega)) (by omega) (by (dsimp only [List.set, List.append, List.cons_append, List.nil_append, roB_cells, roI_cells, roO_cells, splice, ofConst, AV.cells, List.map, List.map_cons, List.map_nil, List.take, List.drop, Nat.zero_add, Nat.add_zero, Nat.reduceAdd, Nat.reduceMul, Nat.zero_mul, Value.cells, List.toList_toArray, zerosA, List.replicate, List.flatten, List.append_nil]; done)) (fun _ => by (dsimp only [List.set]; done)) ?_)
        intro V6 hV6
        refine AO.op (O.assign rfl rfl) rfl rfl rfl ?_
        refine AO.nil ?_
        refine AQ.blockN ?_
        refine AQ.thenN ?_
        refine AW.region ?_
        refine AO.op (O.add rfl rfl rfl (by exact wI64 (by omega))) rfl rfl rfl ?_
        refine AO.op (O.move rfl rfl) rfl rfl rfl ?_
        refine AO.nil ?_
        have e1 : arB p (fun q => u8 ((8 + q : Nat) : Int)) ++ [AV.val (.int .u8 ((u8 ((8 + p : Nat) : Int)).toNat : Int))] = arB (p + 1) (fun q => u8 ((8 + q : Nat) : Int)) := arB_snoc (f := fun q => u8 ((8 + q : Nat) : Int)) rfl
        rw [e1]
        refine AQ.loopKN _ _ _ (by omega) (⟨8, p + 1, V, V6, by omega, hV, hV6, rfl, rfl, rfl⟩) (by repeat (first | exact envNil | refine envCons rfl ?_)) (by repeat (first | exact envNil | refine envCons rfl ?_)) (by repeat (first | exact subPnil | refine subPcons 0 rfl ?_))
    · skip
      obtain rfl : a = 8 := by omega
      obtain rfl : p = 23 := by omega
      refine AW.g ?_
      refine G.freezeRow 0 rfl [2] (by repeat (first | exact frNil | refine frCons rfl ?_)) ?_
      refine AW.u ?_
      try dsimp only [List.map, List.eraseIdx, List.cons_append, List.nil_append]
      refine AW.g ?_
      refine G.freezeRow 0 rfl [3] (by repeat (first | exact frNil | refine frCons rfl ?_)) ?_
      refine AW.u ?_
      try dsimp only [List.map, List.eraseIdx, List.cons_append, List.nil_append]
      refine AW.g ?_
      refine G.re 2 (roB cwA) (congrArg some cwA_eq) ?_
      refine AW.u ?_
      refine AW.g ?_
      refine G.re 3 (roB cwP) (congrArg some cwP_eq) ?_
      refine AW.u ?_
      refine AW.exit ?_
      refine AQ.thenX ?_
      refine AQ.loopX ?_
      refine AQ.blockX rfl ?_
      refine AQ.thenN ?_
      refine AW.seq ?_
      refine AW.region ?_
      refine AO.op (O.move rfl rfl) rfl rfl rfl ?_
      refine AO.opB (O.buildSliceF rfl rfl rfl (by rfl) (by rfl) (by rfl) (by rfl) (by rfl)) rfl rfl rfl ?_
      intro B7
      refine AO.g ?_
      (refine G.freezeSl 0 36 rfl rfl ⟨Nat.le_refl _, by unfold maxLen; omega⟩ ?_)
      refine G.unfull 36 rfl ?_
      refine AO.u ?_
      dsimp only [List.eraseIdx]
      refine AO.op (O.move rfl rfl) rfl rfl rfl ?_
      refine AO.op (O.move rfl rfl) rfl rfl rfl ?_
      refine AO.op (O.call rfl Try.func31 rfl rfl rfl (cw_fn)) rfl rfl rfl ?_
      refine AO.op (O.move rfl rfl) rfl rfl rfl ?_
      refine AO.op (O.extract rfl rfl rfl) rfl rfl rfl ?_
      refine AO.op (O.extract rfl rfl rfl) rfl rfl rfl ?_
      refine AO.op (O.assign rfl rfl) rfl rfl rfl ?_
      refine AO.op (O.assign rfl rfl) rfl rfl rfl ?_
      refine AO.nil ?_
      refine AQ.thenN ?_
      refine AW.seq ?_
      refine AW.region ?_
      refine AO.op (O.move rfl rfl) rfl rfl rfl ?_
      refine AO.op (O.eql rfl rfl rfl (by exact beq_iff_eq.2 (by omega))) rfl rfl rfl ?_
      refine AO.op (O.move rfl rfl) rfl rfl rfl ?_
      refine AO.opG rfl rfl rfl (fun hp => O.move rfl rfl) ?_
      refine AO.opG rfl rfl rfl (fun hp => OpW.force 45 rfl (by exact hp) (O.lenR rfl rfl)) ?_
      refine AO.opG rfl rfl rfl (fun hp => OpW.force 46 rfl (by exact hp) (O.eql rfl rfl rfl (by assumption))) ?_
      refine AO.op (O.pickAnd rfl rfl rfl rfl (fun h => by exact h)) rfl rfl rfl ?_
      refine AO.op (O.move rfl rfl) rfl rfl rfl ?_
      refine AO.opG rfl rfl rfl (fun hp => O.move rfl rfl) ?_
      (refine AO.opG rfl rfl rfl (fun hp => OpW.force 50 rfl (by exact hp) (O.idxR rfl rfl rfl ⟨(by omega), (by (simp only [List.length_take, List.length_drop, List.length_append, List.length_cons, List.length_nil, List.length_set, Nat.zero_add]; omega))⟩)) ?_)
      refine AO.opG rfl rfl rfl (fun hp => OpW.force 51 rfl (by exact hp) (O.loadR rfl rfl (by rfl))) ?_
      refine AO.opG rfl rfl rfl (fun hp => OpW.force 52 rfl (by exact hp) (O.eql rfl rfl rfl (by assumption))) ?_
      refine AO.op (O.pickAnd rfl rfl rfl rfl (fun h => by exact h)) rfl rfl rfl ?_
      refine AO.op (O.move rfl rfl) rfl rfl rfl ?_
      refine AO.opG rfl rfl rfl (fun hp => O.move rfl rfl) ?_
      (refine AO.opG rfl rfl rfl (fun hp => OpW.force 56 rfl (by exact hp) (O.idxR rfl rfl rfl ⟨(by omega), (by (simp only [List.length_take, List.length_drop, List.length_append, List.length_cons, List.length_nil, List.length_set, Nat.zero_add]; omega))⟩)) ?_)
      refine AO.opG rfl rfl rfl (fun hp => OpW.force 57 rfl (by exact hp) (O.loadR rfl rfl (by rfl))) ?_
      refine AO.opG rfl rfl rfl (fun hp => OpW.force 58 rfl (by exact hp) (O.eql rfl rfl rfl (by assumption))) ?_
      refine AO.op (O.pickAnd rfl rfl rfl rfl (fun h => by exact h)) rfl rfl rfl ?_
      refine AO.op (O.move rfl rfl) rfl rfl rfl ?_
      refine AO.opG rfl rfl rfl (fun hp => O.move rfl rfl) ?_
      (refine AO.opG rfl rfl rfl (fun hp => OpW.force 62 rfl (by exact hp) (O.idxR rfl rfl rfl ⟨(by omega), (by (simp only [List.length_take, List.length_drop, List.length_append, List.length_cons, List.length_nil, List.length_set, Nat.zero_add]; omega))⟩)) ?_)
      refine AO.opG rfl rfl rfl (fun hp => OpW.force 63 rfl (by exact hp) (O.loadR rfl rfl (by rfl))) ?_
      refine AO.opG rfl rfl rfl (fun hp => OpW.force 64 rfl (by exact hp) (O.eql rfl rfl rfl (by assumption))) ?_
      refine AO.op (O.pickAnd rfl rfl rfl rfl (fun h => by exact h)) rfl rfl rfl ?_
      refine AO.op (O.move rfl rfl) rfl rfl rfl ?_
      refine AO.opG rfl rfl rfl (fun hp => O.call rfl Try.func28 rfl rfl rfl (cwc_fn)) ?_
      refine AO.opG rfl rfl rfl (fun hp => OpW.force 68 rfl (by exact hp) (O.eql rfl rfl rfl (by exact beq_iff_eq.2 (by omega)))) ?_
      refine AO.op (O.pickAnd rfl rfl rfl rfl (fun h => by exact h)) rfl rfl rfl ?_
      refine AO.op (O.assign rfl rfl) rfl rfl rfl ?_
      refine AO.nil ?_
      refine AQ.thenN ?_
      refine AW.ret ?_
      refine AQ.ret1 rfl rfl ⟨_, List.nil_sublist _, .nil⟩ (⟨rfl, rfl⟩)
def Pars (r : AV) (Hn : List HE) : Prop := (∃ K N : List UInt8, ∃ t : Int, r = .tup [roB K, roB N, .val (.int .i64 t)] ∧ cvB K N t = true) ∧ Hn = []
theorem params_fn (n : Int) : Sp Try.prog 25 [.val (.int .i64 n)] [] Pars := by
  refine Sp.enter Try.func25 rfl _ Try.ntmps25 rfl (fun w0 R0 => ?_)
  refine AW.seq ?_
  refine AW.region ?_
  refine AO.op (O.assign rfl rfl) rfl rfl rfl ?_
  refine AO.op (O.assign rfl rfl) rfl rfl rfl ?_
  refine AO.op (O.assign rfl rfl) rfl rfl rfl ?_
  refine AO.nil ?_
  refine AQ.thenN ?_
  refine AW.seq ?_
  refine AW.region ?_
  refine AO.op (O.move rfl rfl) rfl rfl rfl ?_
  refine AO.op (O.call rfl Try.func14 rfl rfl rfl (some_fn _ _ (by omega))) rfl rfl rfl ?_
  refine AO.op (O.move rfl rfl) rfl rfl rfl ?_
  refine AO.op (O.quo rfl rfl rfl (by omega) (by rfl)) rfl rfl rfl ?_
  refine AO.op (O.move rfl rfl) rfl rfl rfl ?_
  refine AO.op (O.call rfl Try.func15 rfl rfl rfl (Dk.mod_fn _ _ (by omega) (by omega))) rfl rfl rfl ?_
  refine AO.op (O.add rfl rfl rfl (by exact wI64 (by omega))) rfl rfl rfl ?_
  refine AO.op (O.call rfl Try.func14 rfl rfl rfl (some_fn _ _ (by omega))) rfl rfl rfl ?_
  refine AO.op (O.move rfl rfl) rfl rfl rfl ?_
  refine AO.op (O.quo rfl rfl rfl (by omega) (by rfl)) rfl rfl rfl ?_
  refine AO.op (O.call rfl Try.func15 rfl rfl rfl (Dk.mod_fn _ _ (by omega) (by omega))) rfl rfl rfl ?_
  refine AO.op (O.mul rfl rfl rfl (by exact wI64 (by omega))) rfl rfl rfl ?_
  refine AO.op (O.add rfl rfl rfl (by exact wI64 (by omega))) rfl rfl rfl ?_
  refine AO.op (O.assign rfl rfl) rfl rfl rfl ?_
  refine AO.op (O.assign rfl rfl) rfl rfl rfl ?_
  refine AO.op (O.assign rfl rfl) rfl rfl rfl ?_
  refine AO.nil ?_
  refine AQ.thenN ?_
  refine AW.ret ?_
  obtain ⟨w, hw⟩ : ∃ w, w = IntKind.i64.wrap (n.tdiv 7) := ⟨_, rfl⟩
  obtain ⟨v, hv⟩ : ∃ v, v = IntKind.i64.wrap (n.tdiv 3) := ⟨_, rfl⟩
  rw [← hw, ← hv]
  have hc : cvB (someL n (16 : Int).toNat) (someL v (7 + n % 7).toNat) (4 + 2 * (w % 7)) = true := cvB_of ⟨someL_len _ _, by rw [someL_len]; omega, by rw [someL_len]; omega, by omega, by omega, by omega⟩
  refine FnQ.coe (AQ.ret3G rfl (by exact ResAt.tmp rfl) (by exact ResAt.tmp rfl) (by exact ResAt.tmp rfl) ⟨_, List.nil_sublist _, .nil⟩ ⟨rfl, rfl⟩) (Coe.tup (by (repeat (first | exact CoeL.nil | refine CoeL.cons Coe.rfl ?_)); done)) (⟨⟨_, _, _, rfl, hc⟩, rfl⟩)
def cellsP (ps : List (Int × Int)) : List AV := ps.flatMap fun x => [AV.val (.int .i64 x.1), AV.val (.int .i64 x.2)]
end Go.Proofs.Ytochjihddnkhcaa.By

namespace Go.Proofs.Ytochjihddnkhcaa.By
open Go.RowKit L A
set_option linter.unusedVariables false
set_option linter.unusedSimpArgs false
attribute [local irreducible] AW AQ AO
attribute [local simp] arB_len
theorem zeros_roB (N : Nat) : AV.ro false N (zerosA N (.int .u8 0)) = roB (List.replicate N 0) := by
  unfold roB; rw [List.length_replicate, zerosU8]
set_option maxHeartbeats 4000000 in
theorem lawEdges_fn (n m k : Int) : Sp Try.prog 9 [.val (.int .i64 n), .val (.int .i64 m), .val (.int .i64 k)] [] (Is (.val (.bool true))) := by
  refine Sp.enter Try.func9 rfl _ Try.ntmps9 rfl (fun w0 R0 => ?_)
  refine AW.seq ?_
  refine AW.region ?_
  refine AO.op (O.assign rfl rfl) rfl rfl rfl ?_
  refine AO.nil ?_
  refine AQ.thenN ?_
  refine AW.seq ?_
  refine AW.region ?_
  refine AO.op (O.move rfl rfl) rfl rfl rfl ?_
  refine AO.opN (O.call rfl Try.func25 rfl rfl rfl (params_fn _)) rfl rfl rfl ?_
  rintro _ _ ⟨⟨K1, N1, t1, rfl, hcv1⟩, rfl⟩
  simp only [List.cons_append, List.nil_append]
  refine AO.op (O.move rfl rfl) rfl rfl rfl ?_
  refine AO.op (O.extract rfl rfl rfl) rfl rfl rfl ?_
  refine AO.op (O.extract rfl rfl rfl) rfl rfl rfl ?_
  refine AO.op (O.extract rfl rfl rfl) rfl rfl rfl ?_
  refine AO.op (O.assign rfl rfl) rfl rfl rfl ?_
  refine AO.op (O.assign rfl rfl) rfl rfl rfl ?_
  refine AO.op (O.assign rfl rfl) rfl rfl rfl ?_
  refine AO.nil ?_
  refine AQ.thenN ?_
  refine AW.seq ?_
  refine AW.region ?_
  refine AO.op (O.move rfl rfl) rfl rfl rfl ?_
  refine AO.op (O.move rfl rfl) rfl rfl rfl ?_
  refine AO.op (O.call rfl Try.func15 rfl rfl rfl (Dk.mod_fn _ _ (by omega) (by omega))) rfl rfl rfl ?_
  refine AO.op (O.add rfl rfl rfl (by exact wI64 (by omega))) rfl rfl rfl ?_
  refine AO.op (O.move rfl rfl) rfl rfl rfl ?_
  refine AO.op (O.quo rfl rfl rfl (by omega) (by rfl)) rfl rfl rfl ?_
  refine AO.op (O.call rfl Try.func15 rfl rfl rfl (Dk.mod_fn _ _ (by omega) (by omega))) rfl rfl rfl ?_
  refine AO.op (O.mul rfl rfl rfl (by exact wI64 (by omega))) rfl rfl rfl ?_
  refine AO.op (O.add rfl rfl rfl (by exact wI64 (by omega))) rfl rfl rfl ?_
  refine AO.op (O.call rfl Try.func14 rfl rfl rfl (some_fn _ _ (by omega))) rfl rfl rfl ?_
  refine AO.op (O.move rfl rfl) rfl rfl rfl ?_
  refine AO.op (O.move rfl rfl) rfl rfl rfl ?_
  refine AO.op (O.call rfl Try.func15 rfl rfl rfl (Dk.mod_fn _ _ (by omega) (by omega))) rfl rfl rfl ?_
  refine AO.op (O.add rfl rfl rfl (by exact wI64 (by omega))) rfl rfl rfl ?_
  refine AO.op (O.move rfl rfl) rfl rfl rfl ?_
  refine AO.op (O.quo rfl rfl rfl (by omega) (by rfl)) rfl rfl rfl ?_
  refine AO.op (O.call rfl Try.func15 rfl rfl rfl (Dk.mod_fn _ _ (by omega) (by omega))) rfl rfl rfl ?_
  refine AO.op (O.mul rfl rfl rfl (by exact wI64 (by omega))) rfl rfl rfl ?_
  refine AO.op (O.add rfl rfl rfl (by exact wI64 (by omega))) rfl rfl rfl ?_
  refine AO.op (O.call rfl Try.func14 rfl rfl rfl (some_fn _ _ (by omega))) rfl rfl rfl ?_
  refine AO.op (O.assign rfl rfl) rfl rfl rfl ?_
  refine AO.op (O.assign rfl rfl) rfl rfl rfl ?_
  refine AO.nil ?_
  refine AQ.thenN ?_
  refine AW.seq ?_
  refine AW.seq ?_
  refine AW.region ?_
  refine AO.op (O.move rfl rfl) rfl rfl rfl ?_
  refine AO.op (O.call rfl Try.func15 rfl rfl rfl (Dk.mod_fn _ _ (by omega) (by omega))) rfl rfl rfl ?_
  refine AO.op (O.eql rfl rfl rfl (by rfl)) rfl rfl rfl ?_
  refine AO.nil ?_
  refine AQ.thenN ?_
  have hx1 : (someL k (15 + k % 3 + 16 * (IntKind.i64.wrap (k.tdiv 3) % 3)).toNat).length ≤ 5000 := by rw [someL_len]; omega
  have hx2 : (someL m (13 + m % 5 + 16 * (IntKind.i64.wrap (m.tdiv 5) % 2)).toNat).length ≤ 5000 := by rw [someL_len]; omega
  refine AW.joinI [(0, _), (1, _), (7, _), (8, _), (9, _), (10, _)] (fun E H => ∃ (pl : List UInt8), (pl.length ≤ 5000) ∧ E = [(11, roB pl)] ∧ H = []) rfl (by repeat (first | exact envNil | refine envCons rfl ?_)) (fun h44 => ?_) (fun h44 => ?_) ?_ <;> try (try simp only [decide_eq_true_eq, decide_eq_false_iff_not, beq_iff_eq, beq_eq_false_iff_ne, bne_iff_ne, bne_eq_false_iff_eq, Bool.not_eq_true', Bool.not_eq_false', Bool.not_eq_true, Bool.not_eq_false, ne_eq, Int.not_lt, Int.not_le, Bool.and_eq_true, Bool.or_eq_true, Bool.or_eq_false_iff, Bool.and_eq_false_imp, strOf_toList, Decidable.not_not] at h44)
  · skip
    obtain ⟨N, hN⟩ : ∃ N : Nat, N = (4096 + k % 2).toNat := ⟨_, rfl⟩
    have hN' : 4096 + k % 2 = (N : Int) := by omega
    refine AW.region ?_
    refine AO.op (O.move rfl rfl) rfl rfl rfl ?_
    refine AO.op (O.call rfl Try.func15 rfl rfl rfl (Dk.mod_fn _ _ (by omega) (by omega))) rfl rfl rfl ?_
    refine AO.op (O.add rfl rfl rfl (by exact wI64 (by omega))) rfl rfl rfl ?_
    refine AO.opB (O.makeSlice rfl rfl rfl (by assumption) (by assumption) (by omega) (by (unfold maxLen; omega)) (by rfl)) rfl rfl rfl ?_
    intro B2
    refine AO.op (O.assign rfl rfl) rfl rfl rfl ?_
    refine AO.nil ?_
    refine AQ.g ?_
    refine G.freezeSl 0 11 rfl rfl ⟨Nat.le_refl _, by unfold maxLen; omega⟩ ?_
    refine AQ.u ?_
    refine AQ.g ?_
    refine G.unfull 11 rfl ?_
    refine AQ.u ?_
    refine AQ.g ?_
    refine G.re 11 (roB (List.replicate N 0)) (congrArg some (zeros_roB N)) ?_
    refine AQ.u ?_
    refine AQ.midI _ _ (⟨List.replicate N 0, by rw [List.length_replicate]; omega, rfl, rfl⟩) (by repeat (first | exact envNil | refine envCons rfl ?_)) (by repeat (first | exact envNil | refine envCons rfl ?_)) (by repeat (exact subPnil))
  · skip
    refine AW.skip ?_
    refine AQ.midI _ _ (⟨_, hx1, rfl, rfl⟩) (by repeat (first | exact envNil | refine envCons rfl ?_)) (by repeat (first | exact envNil | refine envCons rfl ?_)) (by repeat (exact subPnil))
  · rintro E1 H1 ⟨pl, hpl, rfl, rfl⟩
    dsimp only [List.cons_append, List.nil_append]
    refine AQ.thenN ?_
    refine AW.seq ?_
    refine AW.seq ?_
    refine AW.region ?_
    refine AO.op (O.move rfl rfl) rfl rfl rfl ?_
    refine AO.op (O.call rfl Try.func15 rfl rfl rfl (Dk.mod_fn _ _ (by omega) (by omega))) rfl rfl rfl ?_
    refine AO.op (O.eql rfl rfl rfl (by rfl)) rfl rfl rfl ?_
    refine AO.nil ?_
    refine AQ.thenN ?_
    refine AW.joinI [(7, _), (8, _), (9, _), (11, _)] (fun E H => ∃ (aa : List UInt8), (aa.length ≤ 5000) ∧ E = [(10, roB aa)] ∧ H = []) rfl (by repeat (first | exact envNil | refine envCons rfl ?_)) (fun h51 => ?_) (fun h51 => ?_) ?_ <;> try (try simp only [decide_eq_true_eq, decide_eq_false_iff_not, beq_iff_eq, beq_eq_false_iff_ne, bne_iff_ne, bne_eq_false_iff_eq, Bool.not_eq_true', Bool.not_eq_false', Bool.not_eq_true, Bool.not_eq_false, ne_eq, Int.not_lt, Int.not_le, Bool.and_eq_true, Bool.or_eq_true, Bool.or_eq_false_iff, Bool.and_eq_false_imp, strOf_toList, Decidable.not_not] at h51)
    · skip
      obtain ⟨N, hN⟩ : ∃ N : Nat, N = (4096 + m % 2).toNat := ⟨_, rfl⟩
      have hN' : 4096 + m % 2 = (N : Int) := by omega
      refine AW.region ?_
      refine AO.op (O.move rfl rfl) rfl rfl rfl ?_
      refine AO.op (O.call rfl Try.func15 rfl rfl rfl (Dk.mod_fn _ _ (by omega) (by omega))) rfl rfl rfl ?_
      refine AO.op (O.add rfl rfl rfl (by exact wI64 (by omega))) rfl rfl rfl ?_
      refine AO.opB (O.makeSlice rfl rfl rfl (by assumption) (by assumption) (by omega) (by (unfold maxLen; omega)) (by rfl)) rfl rfl rfl ?_
      intro B3
      refine AO.op (O.assign rfl rfl) rfl rfl rfl ?_
      refine AO.nil ?_
      refine AQ.g ?_
      refine G.freezeSl 0 10 rfl rfl ⟨Nat.le_refl _, by unfold maxLen; omega⟩ ?_
      refine AQ.u ?_
      refine AQ.g ?_
      refine G.unfull 10 rfl ?_
      refine AQ.u ?_
      refine AQ.g ?_
      refine G.re 10 (roB (List.replicate N 0)) (congrArg some (zeros_roB N)) ?_
      refine AQ.u ?_
      refine AQ.midI _ _ (⟨List.replicate N 0, by rw [List.length_replicate]; omega, rfl, rfl⟩) (by repeat (first | exact envNil | refine envCons rfl ?_)) (by repeat (first | exact envNil | refine envCons rfl ?_)) (by repeat (exact subPnil))
    · skip
      refine AW.skip ?_
      refine AQ.midI _ _ (⟨_, hx2, rfl, rfl⟩) (by repeat (first | exact envNil | refine envCons rfl ?_)) (by repeat (first | exact envNil | refine envCons rfl ?_)) (by repeat (exact subPnil))
    · rintro E1 H1 ⟨aa, haa, rfl, rfl⟩
      dsimp only [List.cons_append, List.nil_append]
      refine AQ.thenN ?_
      refine AW.seq ?_
      refine AW.region ?_
      refine AO.op (O.move rfl rfl) rfl rfl rfl ?_
      refine AO.op (O.move rfl rfl) rfl rfl rfl ?_
      refine AO.op (O.move rfl rfl) rfl rfl rfl ?_
      refine AO.op (O.move rfl rfl) rfl rfl rfl ?_
      refine AO.op (O.move rfl rfl) rfl rfl rfl ?_
      refine AO.op (O.call rfl Try.func31 rfl rfl rfl (seal_fn _ _ _ _ _ (by omega) (by omega))) rfl rfl rfl ?_
      refine AO.op (O.move rfl rfl) rfl rfl rfl ?_
      refine AO.op (O.extract rfl rfl rfl) rfl rfl rfl ?_
      refine AO.op (O.extract rfl rfl rfl) rfl rfl rfl ?_
      refine AO.op (O.assign rfl rfl) rfl rfl rfl ?_
      refine AO.op (O.assign rfl rfl) rfl rfl rfl ?_
      refine AO.nil ?_
      refine AQ.thenN ?_
      refine AW.seq ?_
      refine AW.region ?_
      refine AO.op (O.move rfl rfl) rfl rfl rfl ?_
      refine AO.op (O.move rfl rfl) rfl rfl rfl ?_
      refine AO.op (O.move rfl rfl) rfl rfl rfl ?_
      refine AO.op (O.move rfl rfl) rfl rfl rfl ?_
      refine AO.op (O.move rfl rfl) rfl rfl rfl ?_
      refine AO.op (O.call rfl Try.func32 rfl rfl rfl (rseal_fn _ _ _ _ _ (by omega) (by omega))) rfl rfl rfl ?_
      refine AO.op (O.move rfl rfl) rfl rfl rfl ?_
      refine AO.op (O.extract rfl rfl rfl) rfl rfl rfl ?_
      refine AO.op (O.extract rfl rfl rfl) rfl rfl rfl ?_
      refine AO.op (O.assign rfl rfl) rfl rfl rfl ?_
      refine AO.op (O.assign rfl rfl) rfl rfl rfl ?_
      refine AO.nil ?_
      refine AQ.thenN ?_
      refine AW.seq ?_
      refine AW.region ?_
      refine AO.op (O.move rfl rfl) rfl rfl rfl ?_
      refine AO.op (O.convS rfl rfl (by rfl)) rfl rfl rfl ?_
      refine AO.op (O.move rfl rfl) rfl rfl rfl ?_
      refine AO.op (O.convS rfl rfl (by rfl)) rfl rfl rfl ?_
      refine AO.op (O.eqlS rfl rfl rfl (by rfl)) rfl rfl rfl ?_
      refine AO.op (O.move rfl rfl) rfl rfl rfl ?_
      refine AO.opG rfl rfl rfl (fun hp => O.move rfl rfl) ?_
      refine AO.opG rfl rfl rfl (fun hp => O.move rfl rfl) ?_
      refine AO.opG rfl rfl rfl (fun hp => OpW.force 80 rfl (by exact hp) (OpW.force 81 rfl (by exact hp) (O.eql rfl rfl rfl (by exact beq_iff_eq.2 (by omega))))) ?_
      refine AO.op (O.pickAnd rfl rfl rfl rfl (fun h => by exact h)) rfl rfl rfl ?_
      refine AO.op (O.move rfl rfl) rfl rfl rfl ?_
      refine AO.opG rfl rfl rfl (fun hp => O.call rfl Try.func30 rfl rfl rfl (awake07_fn)) ?_
      refine AO.op (O.pickAnd rfl rfl rfl rfl (fun h => by exact h)) rfl rfl rfl ?_
      refine AO.op (O.assign rfl rfl) rfl rfl rfl ?_
      refine AO.nil ?_
      refine AQ.thenN ?_
      refine AW.ret ?_
      refine AQ.g ?_
      refine G.re 6 (.val (.bool true)) (congrArg some (by simp)) ?_
      refine AQ.u ?_
      refine AQ.ret1 rfl rfl ⟨_, List.nil_sublist _, .nil⟩ (⟨rfl, rfl⟩)
end Go.Proofs.Ytochjihddnkhcaa.By

namespace Go.Proofs.Ytochjihddnkhcaa.A
open Go.ChangeShapes Go.WideShapes Go.ChangeAt Go.RowKit Go.Deep L
set_option linter.unusedVariables false
set_option linter.unusedSimpArgs false

theorem own : ownKnob Try.prog.godebug = none := by kernel_rfl
theorem kids : Kids Try.prog (· < Try.prog.types.size) := kids_rows (by kernel_rfl) (by kernel_rfl)
theorem full : ∀ t e, t < Try.prog.types.size → Try.prog.underlying t = some (.slice e) → 0 < Try.prog.cellsOf e := slices_full_of Try.prog (by kernel_rfl)

theorem sameAt_ext {W W' : World} (h : Ext W W') (p : MemPlace) (hp : p.block < W.heap.size) : W.sameAt W' p := by
  have hb : W'.heap[p.block]? = W.heap[p.block]? := h.block _ hp (fun hh => hh)
  cases p with
  | cell b off => exact World.cell?_of_block (w := W) (a := ⟨b, off, none⟩) hb
  | map b => exact hb

section
variable {H : Type} {enc : TypeId × Value → H}
theorem trodAll_carry {P : Program} {W W' : World} {base : Nat} {spare : Nat → Bool} {held : Bool} : ∀ {ts : List TypeId} {vs : List Value} {ds : List (DataW H)} {ps : List MemPlace},
    DataW.TrodAll enc P W base spare held ts vs ds ps → (∀ p ∈ ps, W.sameAt W' p) → DataW.TrodAll enc P W' base spare held ts vs ds ps
  | [], [], [], _, h, _ => h
  | _ :: _, _ :: _, _ :: _, _, ⟨p, q, ⟨n, h1⟩, h2, e⟩, hs => ⟨p, q, ⟨n, DataW.trod_carry n _ _ _ h1 (fun x hx => hs x (by rw [e]; exact List.mem_append_left _ hx))⟩, trodAll_carry h2 (fun x hx => hs x (by rw [e]; exact List.mem_append_right _ hx)), e⟩

/-- A law: it returned true, and nothing that was there has turned. -/
theorem lawPost {fn : Func} {s : ChangeSpec} {W W' : World} {args : Array Value} {ds gs : List (DataW H)} {before : List MemPlace} {bt : TypeId}
    (hW : DataW.Whole enc Try.prog fn.params.toList s.vars false W args.toList ds gs before) (hv : s.vars = []) (hfn : s.fn H (ds ++ gs) = { results := [.lit (.bool true)], args := ds }) (hres : fn.resultTypes = #[bt]) (hbt : Try.prog.underlying bt = some .bool)
    (hpar : ∀ t ∈ fn.params.toList, t < Try.prog.types.size) (hE : Ext W W') : s.post enc Try.prog fn false true false false W args (.bool true) W' := by
  have hold : ∀ p ∈ before, (fun b => decide (b < W.heap.size)) p.block = true := fun p hp => by simpa using hW.lt p hp
  have hlt := hW.lt
  have hW' := hW
  obtain ⟨pa, pv, hA, hV, rfl, hz, hn⟩ := hW
  rw [hv] at hV
  obtain ⟨rfl, rfl⟩ := trodVars_none hV
  have hA' : DataW.TrodAll enc Try.prog W' 0 (fun _ => true) true fn.params.toList args.toList ds pa := trodAll_carry hA fun p hp => sameAt_ext hE p (hlt p (List.mem_append_left _ hp))
  have hargs : ∀ sp : Nat → Bool, (∀ p ∈ pa ++ [], sp p.block = true) → DataW.TrodAll enc Try.prog W' 0 sp true fn.params.toList args.toList ds pa := fun sp hsp =>
    DataW.TrodAll.respare kids full hpar hA' fun p hp => hsp p (by simpa using hp)
  have hres' : ∀ (b : Nat) (sp : Nat → Bool) (hd : Bool), DataW.TrodAll enc Try.prog W' b sp hd fn.resultTypes.toList ((Value.bool true).resultList fn.resultTypes.size) [.lit (.bool true)] [] := fun b sp hd => by
    rw [hres]; exact trodAll_cons_mk (shut_bool hbt true) trodAll_mk0
  refine ⟨ds, [], pa ++ [], [], pa, [], hW', by rw [hfn]; exact hres' _ _ _, by rw [hfn]; exact hargs _ hold, by rw [hfn, hv]; rfl, World.keptBut_mono (fun p hp => ⟨hp, ?_⟩) ((hE.toBelow).frame (· ∈ pa ++ [])), fun h => by cases h⟩
  exact Or.inr (by simpa using hp)

/-! ### How arguments read -/

def Old (W : World) : Nat → Prop := fun b => b < W.heap.size

variable {P : Program} {W : World}
/-- A reading of cells of a type as these. -/
theorem rd_int {base : Nat} {spare : Nat → Bool} {held : Bool} {t : TypeId} {k : IntKind} (ht : P.underlying t = some (.int k)) {n : Nat} {cs : List Value} {x : DataW H × List MemPlace} (h : DataW.trod enc P W base spare held n t cs = some x) :
    ∃ z : Int, (Lit.int k z).wf = true ∧ RelL (Old W) W [.val (.int k z)] cs := by
  cases n with
  | zero => simp [DataW.trod] at h
  | succ n =>
    obtain ⟨z, rfl, _, hw⟩ := DataW.trod_int ht h
    exact ⟨z, hw, RelL.cons (.val _) RelL.nil⟩

theorem rd_slice {α : Type} {enc' : α → List AV} {good : α → Prop} {base : Nat} {spare : Nat → Bool} {held : Bool} {t e : TypeId} (ht : P.underlying t = some (.slice e)) (hsz : ∀ a, (enc' a).length = P.cellsOf e) (hpos : 0 < P.cellsOf e)
    (he : ∀ (n : Nat) (cs : List Value) (x : DataW H × List MemPlace), cs.length = P.cellsOf e → DataW.trod enc P W base spare held n e cs = some x → ∃ a, good a ∧ RelL (Old W) W (enc' a) cs)
    {n : Nat} {cs : List Value} {x : DataW H × List MemPlace} (h : DataW.trod enc P W base spare held n t cs = some x) :
    ∃ l : List α, (∀ a ∈ l, good a) ∧ l.length ≤ maxLen ∧ RelL (Old W) W [.ro false l.length (l.flatMap enc')] cs := by
  rcases open_slice ht h with ⟨rfl, -⟩ | ⟨ad, len, cap, m, n', D, Pl, rfl, hb, hl, hm, hmm, hx, hi⟩
  · exact ⟨[], fun _ h => (by cases h), Nat.zero_le _, RelL.cons (.emp _ _ _ (fun h => by cases h) (Nat.zero_le _)) RelL.nil⟩
  · have hlm : len ≤ m := by rw [hmm]; split <;> omega
    have hex : ∀ i : Nat, ∃ a : Option α, i < len → ∃ a', a = some a' ∧ good a' ∧ ∃ cs', W.cells? base (ad.add (i * P.cellsOf e)) (P.cellsOf e) = some cs' ∧ RelL (Old W) W (enc' a') cs' := fun i => by
      by_cases hil : i < len
      · obtain ⟨cs', hc, htr⟩ := hi i (by omega)
        obtain ⟨_, hcl, _⟩ := World.cells?_some hc
        obtain ⟨a, hg, hr⟩ := he _ _ _ hcl htr
        exact ⟨some a, fun _ => ⟨a, rfl, hg, cs', hc, hr⟩⟩
      · exact ⟨none, fun h => absurd h hil⟩
    obtain ⟨f, hf⟩ := Classical.axiomOfChoice hex
    by_cases hlen0 : len = 0
    · subst hlen0
      exact ⟨[], fun _ h => (by cases h), Nat.zero_le _, RelL.cons (.emp _ _ _ (fun h => by cases h) hm) RelL.nil⟩
    · obtain ⟨a0, _, _⟩ := hf 0 (by omega)
      let g : Nat → α := fun i => (f i).getD a0
      have hg : ∀ i, i < len → good (g i) ∧ ∃ cs', W.cells? base (ad.add (i * P.cellsOf e)) (P.cellsOf e) = some cs' ∧ RelL (Old W) W (enc' (g i)) cs' := fun i hi' => by
        obtain ⟨a', ha', h1, h2⟩ := hf i hi'
        have : g i = a' := by simp [g, ha']
        rw [this]; exact ⟨h1, h2⟩
      have hflat : ∀ (len : Nat), (((List.range len).map g).flatMap enc').length = len * P.cellsOf e := by
        intro len
        induction len with
        | zero => simp
        | succ k ih => rw [List.range_succ, List.map_append, List.flatMap_append, List.length_append, ih]; simp [hsz, Nat.add_mul]
      have hflatget : ∀ (len i j : Nat), i < len → j < P.cellsOf e → (((List.range len).map g).flatMap enc')[i * P.cellsOf e + j]? = (enc' (g i))[j]? := by
        intro len
        induction len with
        | zero => intro i j h; omega
        | succ k ih =>
          intro i j h hj
          rw [List.range_succ, List.map_append, List.flatMap_append, List.getElem?_append]
          by_cases hik : i < k
          · have h1 : (i + 1) * P.cellsOf e ≤ k * P.cellsOf e := Nat.mul_le_mul_right _ (by omega)
            rw [Nat.add_mul] at h1
            rw [if_pos (by rw [hflat]; omega)]
            exact ih i j hik hj
          · have : i = k := by omega
            subst this
            rw [if_neg (by rw [hflat]; omega), hflat]
            simp
      have hblk : ad.spot = none ∧ ad.block < W.heap.size := by
        obtain ⟨_, cs', hc, _⟩ := hg 0 (by omega)
        obtain ⟨_, hcl, hat⟩ := World.cells?_some hc
        have h0 := hat 0 hpos
        simp only [Nat.zero_mul] at h0
        have h1 : W.cell? ad ≠ none := by
          intro hn
          rw [show (ad.add 0).add 0 = ad by simp [Addr.add]] at h0
          rw [hn] at h0
          have := (List.getElem?_eq_none_iff.1 h0.symm)
          omega
        refine ⟨?_, ?_⟩
        · cases hsp : ad.spot with
          | none => rfl
          | some _ => exfalso; apply h1; unfold World.cell?; split <;> simp [hsp]
        · cases hc : W.cell? ad with
          | none => exact absurd hc h1
          | some u => exact World.block_lt_of_cell? W ad hc
      obtain ⟨b, off, sp⟩ := ad
      obtain ⟨rfl, hblt⟩ := hblk
      have hcell : ∀ i j, i < len → j < P.cellsOf e → ∃ u, W.cell? ⟨b, off + (i * P.cellsOf e + j), none⟩ = some u ∧ ∃ x, (enc' (g i))[j]? = some x ∧ RelV (Old W) W x u := fun i j hi' hj => by
        obtain ⟨_, cs', hc, hr⟩ := hg i hi'
        obtain ⟨_, hcl, hat⟩ := World.cells?_some hc
        have h0 := hat j hj
        rw [addr_add, addr_add] at h0
        have hjl : j < cs'.length := by omega
        have hjx : j < (enc' (g i)).length := by rw [hsz]; exact hj
        refine ⟨cs'[j], by rw [← Nat.add_assoc, h0]; simp [hjl], (enc' (g i))[j], by simp [hjx], ?_⟩
        have := hr.2 j hjx
        simpa [hjl] using this
      refine ⟨(List.range len).map g, fun a ha => ?_, by simp; omega, RelL.cons ?_ RelL.nil⟩
      · obtain ⟨i, hi', rfl⟩ := List.mem_map.1 ha
        exact (hg i (List.mem_range.1 hi')).1
      · rw [List.length_map, List.length_range]
        have hq : ∀ j, j < (((List.range len).map g).flatMap enc').length → ∃ u, W.cell? ⟨b, off + j, none⟩ = some u ∧ ∃ x, (((List.range len).map g).flatMap enc')[j]? = some x ∧ RelV (Old W) W x u := fun j hj => by
          rw [hflat] at hj
          have h1 : j / P.cellsOf e < len := (Nat.div_lt_iff_lt_mul hpos).2 hj
          have h2 := Nat.mod_lt j hpos
          have h3 : j / P.cellsOf e * P.cellsOf e + j % P.cellsOf e = j := by rw [Nat.mul_comm]; exact Nat.div_add_mod j _
          obtain ⟨u, hu, x, hx', hr⟩ := hcell (j / P.cellsOf e) (j % P.cellsOf e) h1 h2
          rw [h3] at hu
          refine ⟨u, hu, x, ?_, hr⟩
          have := hflatget len _ _ h1 h2
          rw [h3] at this
          rw [this, hx']
        refine .ro false len _ b off cap (fun j => (W.cell? ⟨b, off + j, none⟩).getD undef) hblt (fun j hj => ?_) (fun j hj => ?_) hl hm (fun h => by cases h)
        · obtain ⟨u, hu, _⟩ := hq j hj
          rw [hu]; rfl
        · obtain ⟨u, hu, x, hx', hr⟩ := hq j hj
          rw [hu]
          simp only [Option.getD_some]
          have : x = (((List.range len).map g).flatMap enc')[j] := by
            rw [List.getElem?_eq_getElem hj] at hx'; exact (Option.some.inj hx').symm
          rw [← this]; exact hr

theorem flatMap_one {α : Type} (f : α → AV) (l : List α) : l.flatMap (fun a => [f a]) = l.map f := by
  induction l with
  | nil => rfl
  | cons a l ih => simp [List.flatMap_cons, ih]

theorem rd_ints {base : Nat} {spare : Nat → Bool} {held : Bool} {t e : TypeId} {k : IntKind} (ht : P.underlying t = some (.slice e)) (he : P.underlying e = some (.int k)) (h1 : P.cellsOf e = 1) {n : Nat} {cs : List Value} {x : DataW H × List MemPlace} (h : DataW.trod enc P W base spare held n t cs = some x) :
    ∃ l : List Int, (∀ z ∈ l, (Lit.int k z).wf = true) ∧ l.length ≤ maxLen ∧ RelL (Old W) W [.ro false l.length (intsA k l)] cs := by
  obtain ⟨l, h2, h3, h4⟩ := rd_slice (enc' := fun z : Int => [.val (.int k z)]) (good := fun z => (Lit.int k z).wf = true) ht (fun _ => h1.symm) (by omega) (fun n cs x _ h => rd_int he h) h
  rw [flatMap_one] at h4
  exact ⟨l, h2, h3, h4⟩
theorem rd_bytes {base : Nat} {spare : Nat → Bool} {held : Bool} {t e : TypeId} (ht : P.underlying t = some (.slice e)) (he : P.underlying e = some (.int .u8)) (h1 : P.cellsOf e = 1) {n : Nat} {cs : List Value} {x : DataW H × List MemPlace} (h : DataW.trod enc P W base spare held n t cs = some x) :
    ∃ l : List UInt8, l.length ≤ maxLen ∧ RelL (Old W) W [roB l] cs := by
  obtain ⟨l, h2, h3, h4⟩ := rd_ints ht he h1 h
  have hb : ∃ m : List UInt8, l = m.map fun b => ((b.toNat : Nat) : Int) := by
    clear h h3 h4
    induction l with
    | nil => exact ⟨[], rfl⟩
    | cons z l ih =>
      obtain ⟨m, rfl⟩ := ih fun z hz => h2 z (List.mem_cons_of_mem _ hz)
      have hz := h2 z (List.mem_cons_self ..)
      have hz' : 0 ≤ z ∧ z ≤ 255 := by simpa [Lit.wf, IntKind.min, IntKind.max, IntKind.signed, IntKind.bits] using hz
      refine ⟨UInt8.ofNat z.toNat :: m, ?_⟩
      simp only [List.map_cons, List.cons.injEq, and_true]
      rw [UInt8.toNat_ofNat_of_lt' (by simp [UInt8.size]; omega)]
      omega
  obtain ⟨m, rfl⟩ := hb
  refine ⟨m, by simpa using h3, ?_⟩
  simpa [roB, bytesA, intsA, Function.comp_def] using h4

theorem relV_of_one {R : Nat → Prop} {a : AV} {v : Value} (hc : v.cells.toList = [v]) (h : RelL R W [a] v.cells.toList) : RelV R W a v := by
  rw [hc] at h
  obtain ⟨u, r, he, h1, _⟩ := h.uncons
  cases he
  exact h1
end
end Go.Proofs.Ytochjihddnkhcaa.A

namespace Go.Proofs.Ytochjihddnkhcaa.A
open Go.ChangeShapes Go.WideShapes Go.ChangeAt Go.RowKit L
set_option linter.unusedVariables false
set_option linter.unusedSimpArgs false
section
variable {P : Program}

/-- Arguments of this type read as one of these. -/
def Reads (P : Program) (t : TypeId) (φ : AV → Prop) : Prop :=
  ∀ (H : Type) (enc : TypeId × Value → H) (W : World) (base b0 : Nat) (spare : Nat → Bool) (held : Bool) (v : Value) (d : DataW H) (p : List MemPlace),
    Value.okWide P W .any b0 t v → DataW.Trod enc P W base spare held t v d p → ∃ x, φ x ∧ RelV (Old W) W x v
/-- Cells of this type read as one of these. -/
structure RdC (P : Program) (t : TypeId) {α : Type} (f : α → List AV) (good : α → Prop) : Prop where
  len : ∀ a, (f a).length = P.cellsOf t
  rd : ∀ (H : Type) (enc : TypeId × Value → H) (W : World) (base : Nat) (spare : Nat → Bool) (held : Bool) (n : Nat) (cs : List Value) (x : DataW H × List MemPlace),
    DataW.trod enc P W base spare held n t cs = some x → ∃ a, good a ∧ RelL (Old W) W (f a) cs

theorem okw_int {W : World} {r : Reach} {b : Nat} {t : TypeId} {k : IntKind} (ht : P.underlying t = some (.int k)) {v : Value} (h : Value.okWide P W r b t v) : v.cells.toList = [v] := by
  cases v <;> simp [Value.okWide, ht, Cell.okWide, Cell.ok] at h <;> rfl
theorem okw_slice {W : World} {r : Reach} {b : Nat} {t e : TypeId} (ht : P.underlying t = some (.slice e)) {v : Value} (h : Value.okWide P W r b t v) : v.cells.toList = [v] := by
  cases v <;> simp [Value.okWide, ht, Cell.okWide, Cell.ok] at h <;> rfl
theorem okw_bool {W : World} {r : Reach} {b : Nat} {t : TypeId} (ht : P.underlying t = some .bool) {v : Value} (h : Value.okWide P W r b t v) : v.cells.toList = [v] := by
  cases v <;> simp [Value.okWide, ht, Cell.okWide, Cell.ok] at h <;> rfl
theorem RelL.glue {R : Nat → Prop} {W : World} {xs ys : List AV} {cs : List Value} {o k : Nat} (h1 : RelL R W xs ((cs.drop o).take k)) (h2 : RelL R W ys (cs.drop (o + k))) : RelL R W (xs ++ ys) (cs.drop o) := by
  have := h1.app h2
  rwa [show (cs.drop o).take k ++ cs.drop (o + k) = cs.drop o by rw [← List.drop_drop, List.take_append_drop]] at this
theorem RdC.int {t : TypeId} {k : IntKind} (ht : P.underlying t = some (.int k)) (h1 : P.cellsOf t = 1) : RdC P t (fun z : Int => [.val (.int k z)]) (fun z => (Lit.int k z).wf = true) :=
  ⟨fun _ => h1.symm, fun H enc W base spare held n cs x h => rd_int ht h⟩
theorem RdC.bool {t : TypeId} (ht : P.underlying t = some .bool) (h1 : P.cellsOf t = 1) : RdC P t (fun z : Bool => [.val (.bool z)]) (fun _ => True) :=
  ⟨fun _ => h1.symm, fun H enc W base spare held n cs x h => by
    obtain ⟨b, rfl, _⟩ := DataW.trod_bool ht h
    exact ⟨b, trivial, RelL.cons (.val _) RelL.nil⟩⟩
theorem RdC.string {t : TypeId} (ht : P.underlying t = some .string) (h1 : P.cellsOf t = 1) : RdC P t (fun s : ByteArray => [.val (.string s)]) (fun s => s.size ≤ maxLen) :=
  ⟨fun _ => h1.symm, fun H enc W base spare held n cs x h => by
    obtain ⟨b, rfl, _, hs⟩ := DataW.trod_string ht h
    exact ⟨b, hs, RelL.cons (.val _) RelL.nil⟩⟩
theorem RdC.slice {t e : TypeId} {α : Type} {f : α → List AV} {good : α → Prop} (ht : P.underlying t = some (.slice e)) (h1 : P.cellsOf t = 1) (hpos : 0 < P.cellsOf e) (h : RdC P e f good) :
    RdC P t (fun l : List α => [.ro false l.length (l.flatMap f)]) (fun l => (∀ a ∈ l, good a) ∧ l.length ≤ maxLen) :=
  ⟨fun _ => h1.symm, fun H enc W base spare held n cs x hx => by
    obtain ⟨l, h2, h3, h4⟩ := rd_slice ht h.len hpos (fun n cs x _ hx => h.rd H enc W base spare held n cs x hx) hx
    exact ⟨l, ⟨h2, h3⟩, h4⟩⟩
theorem RdC.bytes {t e : TypeId} (ht : P.underlying t = some (.slice e)) (he : P.underlying e = some (.int .u8)) (h1 : P.cellsOf t = 1) (h2 : P.cellsOf e = 1) : RdC P t (fun l : List UInt8 => [roB l]) (fun l => l.length ≤ maxLen) :=
  ⟨fun _ => h1.symm, fun H enc W base spare held n cs x hx => rd_bytes ht he h2 hx⟩
/-- Fields, one after the other, from cell o on. -/
structure FR (P : Program) (fs : List Field) (o m : Nat) {α : Type} (f : α → List AV) (good : α → Prop) : Prop where
  len : ∀ a, (f a).length = m
  rd : ∀ (H : Type) (enc : TypeId × Value → H) (W : World) (base : Nat) (spare : Nat → Bool) (held : Bool) (cs : List Value), cs.length = o + m →
    (∀ fd ∈ fs, ∃ (n : Nat) (y : DataW H × List MemPlace), DataW.trod enc P W base spare held n fd.type ((cs.drop fd.offset).take (P.cellsOf fd.type)) = some y) → ∃ a, good a ∧ RelL (Old W) W (f a) (cs.drop o)
theorem FR.nil {o : Nat} : FR P [] o 0 (fun _ : Unit => []) (fun _ => True) :=
  ⟨fun _ => rfl, fun H enc W base spare held cs hl _ => ⟨(), trivial, by rw [List.drop_of_length_le (by omega)]; exact RelL.nil⟩⟩
theorem FR.cons {fd : Field} {fs : List Field} {o k m : Nat} {α β : Type} {f : α → List AV} {good : α → Prop} {g : β → List AV} {good' : β → Prop} (h : RdC P fd.type f good) (ho : fd.offset = o) (hk : P.cellsOf fd.type = k) (hs : FR P fs (o + k) m g good') :
    FR P (fd :: fs) o (k + m) (fun p : α × β => f p.1 ++ g p.2) (fun p => good p.1 ∧ good' p.2) :=
  ⟨fun p => by rw [List.length_append, h.len, hs.len, hk], fun H enc W base spare held cs hl hall => by
    obtain ⟨n, y, h1⟩ := hall fd (List.mem_cons_self ..)
    rw [ho, hk] at h1
    obtain ⟨a, h2, h3⟩ := h.rd H enc W base spare held _ _ _ h1
    obtain ⟨b, h4, h5⟩ := hs.rd H enc W base spare held cs (by omega) (fun fd hfd => hall fd (List.mem_cons_of_mem _ hfd))
    exact ⟨(a, b), ⟨h2, h4⟩, RelL.glue h3 h5⟩⟩
theorem RdC.struct {t : TypeId} {fs : List Field} {m : Nat} {α : Type} {f : α → List AV} {good : α → Prop} (ht : P.underlying t = some (.struct fs.toArray)) (hm : P.cellsOf t = m) (h : FR P fs 0 m f good) : RdC P t f good :=
  ⟨fun a => by rw [h.len, hm], fun H enc W base spare held n cs x hx => by
    obtain ⟨xs, n', _, _, hl, hlen, hf⟩ := DataW.trod_struct ht hx
    obtain ⟨a, h1, h2⟩ := h.rd H enc W base spare held cs (by omega) (fun fd hfd => by
      obtain ⟨i, hi, rfl⟩ := List.getElem_of_mem hfd
      have h0 := hf i fs[i] (by simp [hi])
      have hxi : i < xs.length := by rw [hlen]; simpa using hi
      rw [List.getElem?_eq_getElem hxi] at h0
      exact ⟨n', _, h0⟩)
    exact ⟨a, h1, by simpa using h2⟩⟩
theorem RdC.map {t : TypeId} {α β : Type} {f : α → List AV} {good : α → Prop} {g : β → List AV} {good' : β → Prop} (h : RdC P t f good) (φ : α → β) (hφ : ∀ a, good a → good' (φ a) ∧ f a = g (φ a)) (hl : ∀ b, (g b).length = P.cellsOf t) : RdC P t g good' :=
  ⟨hl, fun H enc W base spare held n cs x hx => by
    obtain ⟨a, h1, h2⟩ := h.rd H enc W base spare held n cs x hx
    exact ⟨φ a, (hφ a h1).1, (hφ a h1).2 ▸ h2⟩⟩
theorem RdC.reads {t : TypeId} {α : Type} {f : α → List AV} {good : α → Prop} (h : RdC P t f good) (g : α → AV) (hg : ∀ a, f a = [g a]) (hw : ∀ (W : World) (b : Nat) (v : Value), Value.okWide P W .any b t v → v.cells.toList = [v]) : Reads P t (fun x => ∃ a, good a ∧ x = g a) :=
  fun H enc W base b0 spare held v d p hv ⟨n, hx⟩ => by
    obtain ⟨a, h1, h2⟩ := h.rd H enc W base spare held n _ _ hx
    rw [hg] at h2
    exact ⟨g a, ⟨a, h1, rfl⟩, relV_of_one (hw _ _ _ hv) h2⟩
theorem Reads.int {t : TypeId} {k : IntKind} (ht : P.underlying t = some (.int k)) (h1 : P.cellsOf t = 1) : Reads P t (fun x => ∃ z : Int, (Lit.int k z).wf = true ∧ x = .val (.int k z)) := (RdC.int ht h1).reads (fun z => .val (.int k z)) (fun _ => rfl) (fun _ _ _ h => okw_int ht h)
theorem Reads.bool {t : TypeId} (ht : P.underlying t = some .bool) (h1 : P.cellsOf t = 1) : Reads P t (fun x => ∃ z : Bool, True ∧ x = .val (.bool z)) := (RdC.bool ht h1).reads (fun z => .val (.bool z)) (fun _ => rfl) (fun _ _ _ h => okw_bool ht h)
theorem Reads.bytes {t e : TypeId} (ht : P.underlying t = some (.slice e)) (he : P.underlying e = some (.int .u8)) (h1 : P.cellsOf t = 1) (h2 : P.cellsOf e = 1) : Reads P t (fun x => ∃ l : List UInt8, l.length ≤ maxLen ∧ x = roB l) := (RdC.bytes ht he h1 h2).reads roB (fun _ => rfl) (fun _ _ _ h => okw_slice ht h)
theorem Reads.slice {t e : TypeId} {α : Type} {f : α → List AV} {good : α → Prop} (ht : P.underlying t = some (.slice e)) (h1 : P.cellsOf t = 1) (hpos : 0 < P.cellsOf e) (h : RdC P e f good) :
    Reads P t (fun x => ∃ l : List α, ((∀ a ∈ l, good a) ∧ l.length ≤ maxLen) ∧ x = .ro false l.length (l.flatMap f)) := (RdC.slice ht h1 hpos h).reads (fun l => .ro false l.length (l.flatMap f)) (fun _ => rfl) (fun _ _ _ h => okw_slice ht h)

/-- All arguments. -/
def ReadsL (P : Program) : List TypeId → List (AV → Prop) → Prop
  | [], [] => True
  | t :: ts, φ :: φs => Reads P t φ ∧ ReadsL P ts φs
  | _, _ => False
theorem ReadsL.nil : ReadsL P [] [] := trivial
theorem ReadsL.cons {t : TypeId} {ts : List TypeId} {φ : AV → Prop} {φs : List (AV → Prop)} (h : Reads P t φ) (hs : ReadsL P ts φs) : ReadsL P (t :: ts) (φ :: φs) := ⟨h, hs⟩
def AllOf : List (AV → Prop) → (List AV → Prop) → Prop
  | [], K => K []
  | φ :: φs, K => ∀ x, φ x → AllOf φs (fun xs => K (x :: xs))

theorem readAll {H : Type} {enc : TypeId × Value → H} {W : World} {base b0 : Nat} {spare : Nat → Bool} {held : Bool} : ∀ {ts : List TypeId} {φs : List (AV → Prop)} {K : List AV → Prop} {vs : List Value} {ds : List (DataW H)} {ps : List MemPlace},
    ReadsL P ts φs → AllOf φs K → (∀ (j : Nat) t v, ts[j]? = some t → vs[j]? = some v → Value.okWide P W .any b0 t v) → DataW.TrodAll enc P W base spare held ts vs ds ps → ∃ xs, K xs ∧ RelL (Old W) W xs vs
  | [], [], K, vs, ds, ps, _, hK, _, hT => by
    obtain ⟨rfl, _, _⟩ := trodAll_nil hT
    exact ⟨[], hK, RelL.nil⟩
  | [], _ :: _, _, _, _, _, h, _, _, _ => h.elim
  | _ :: _, [], _, _, _, _, h, _, _, _ => h.elim
  | t :: ts, φ :: φs, K, vs, ds, ps, h, hK, hv, hT => by
    obtain ⟨v0, vs0, d0, ds0, p0, q0, rfl, rfl, rfl, h0, r0⟩ := trodAll_cons hT
    obtain ⟨x, h1, h2⟩ := h.1 H enc W base b0 spare held v0 d0 p0 (hv 0 t v0 rfl rfl) h0
    obtain ⟨xs, h3, h4⟩ := readAll h.2 (hK x h1) (fun j t v a b => hv (j + 1) t v a b) r0
    exact ⟨x :: xs, h3, RelL.cons h2 h4⟩
end

theorem law_contract {f : FuncId} {fn : Func} {s : ChangeSpec} {H : Type} (enc : TypeId × Value → H) {ts : List TypeId} {φs : List (AV → Prop)} (hp : fn.params.toList = ts) (hr : ReadsL Try.prog ts φs)
    (h : AllOf φs fun xs => Sp Try.prog f xs [] (Is (.val (.bool true)))) {W : World} {base : Nat} {args : Array Value} {ds gs : List (DataW H)} {before : List MemPlace}
    (hval : ∀ (j : Nat) t v, fn.params[j]? = some t → args[j]? = some v → Value.okWide Try.prog W .any base t v)
    (hW : DataW.Whole enc Try.prog fn.params.toList s.vars false W args.toList ds gs before)
    (post : ∀ W', Ext W W' → s.post enc Try.prog fn false true false false W args (.bool true) W') :
    Calls Try.prog f args W fun e W' => ∃ v, e = .returned v ∧ s.post enc Try.prog fn false true false false W args v W' := by
  obtain ⟨p, q, hA, hV, rfl, hfz, hnd⟩ := hW
  rw [hp] at hA
  obtain ⟨xs, hS, hR⟩ := readAll (b0 := base) hr h (fun j t v h1 h2 => hval j t v (by rw [← Array.getElem?_toList, hp]; exact h1) (by rw [← Array.getElem?_toList]; exact h2)) hA
  have hc := hS W (Old W) args.toList (fun b hb => hb) (fun e he => by cases he) .nil hR
  rw [Array.toArray_toList] at hc
  refine hc.mono ?_
  rintro e W' ⟨u, r, H', R', rfl, ⟨rfl, rfl⟩, hs, hv⟩
  obtain rfl := hv.val_inv
  exact ⟨_, rfl, post W' (hs.mods.mono fun b _ ⟨e, he, _⟩ => by cases he)⟩
end Go.Proofs.Ytochjihddnkhcaa.A

namespace Go.Proofs.Ytochjihddnkhcaa.By
open Go.RowKit L A
set_option linter.unusedVariables false
set_option linter.unusedSimpArgs false
attribute [local irreducible] AW AQ AO
attribute [local simp] arB_len
theorem kf_app1 {A B : List UInt8} {q : Nat} (h : q < A.length) : kf (A ++ B) q = kf A q := by
  simp only [kf, List.getD_eq_getElem?_getD]; rw [List.getElem?_append_left h]
theorem seal_str {key nonce aad plain : List UInt8} {tag : Int} (h : cvB key nonce tag = true) (ha : aad.length ≤ 4096) (hp : plain.length ≤ 4096) : sealE key nonce aad plain tag = 0 ∧ ((sealL key nonce aad plain tag).length : Int) = plain.length + tag ∧ ∀ i, i < plain.length → kf (sealL key nonce aad plain tag) i = strF (wK key) nonce plain i := by
  have hb : sealOk aad plain = true := by
    simp only [sealOk, Bool.and_eq_true, decide_eq_true_eq]; omega
  obtain ⟨e1, e2⟩ := seal_good h hb
  obtain ⟨_, _, _, h4, _, _⟩ := cvB_bd h
  refine ⟨e2, ?_, fun i hi => ?_⟩
  · rw [e1, List.length_append, fnB_len, fnB_len]; omega
  · rw [e1, kf_app1 (by rw [fnB_len]; exact hi), kf_fnB hi]
theorem blk13 {N : List UInt8} (hN : N.length = 13) {n : Int} (hn : 0 ≤ n ∧ n < 256) : ∀ q, q < 16 → kf ([1] ++ N ++ [0, u8 n]) q = blkF (u8 (14 - (N.length : Int))) N n q := fun q hq => by
  rw [blkF]
  by_cases h0 : q = 0
  · subst h0; rw [if_pos rfl, hN]; rfl
  · rw [if_neg h0]
    by_cases h1 : q ≤ N.length
    · rw [if_pos h1, kf_app1 (by simp; omega)]
      simp only [kf, List.getD_eq_getElem?_getD]
      rw [List.getElem?_append_right (by simp; omega)]; rfl
    · rw [if_neg h1]
      simp only [kf, List.getD_eq_getElem?_getD]
      rw [List.getElem?_append_right (by simp; omega)]
      rcases (by omega : q = 14 ∨ q = 15) with rfl | rfl
      · simp only [List.length_append, List.length_cons, List.length_nil, hN]
        rw [show 15 - 14 = 1 from rfl, show n / (256 : Int) ^ 1 = 0 by omega]; rfl
      · simp only [List.length_append, List.length_cons, List.length_nil, hN]
        rw [show 15 - 15 = 0 from rfl, show n / (256 : Int) ^ 0 = n by omega]; rfl
theorem enc13_fn (K N : List UInt8) (hK : K.length = 16) (hN : N.length = 13) (n : Int) (hn : 0 ≤ n ∧ n < 256) : Sp Try.prog 20 [roB K, roB ([1] ++ N ++ [0, u8 n])] [] (Is (.tup [roB (fnB 16 (enc (wK K) (blkF (u8 (14 - (N.length : Int))) N n))), .val (.int .i64 0)])) := by
  have h := aesenc_fn K ([1] ++ N ++ [0, u8 n])
  have hl : ([1] ++ N ++ [0, u8 n]).length = 16 := by simp [hN]
  have e1 : encL K ([1] ++ N ++ [0, u8 n]) = fnB 16 (enc (wK K) (blkF (u8 (14 - (N.length : Int))) N n)) := by
    rw [encL, if_pos ⟨hK, hl⟩]
    exact fnB_congr (enc_congr (blk13 hN hn))
  rw [e1, encE, if_pos ⟨hK, hl⟩] at h
  exact h
set_option maxHeartbeats 4000000 in
theorem lawStream_fn (aad plain : List UInt8) (n : Int) : Sp Try.prog 10 [roB aad, roB plain, .val (.int .i64 n)] [] (Is (.val (.bool true))) := by
  refine Sp.enter Try.func10 rfl _ Try.ntmps10 rfl (fun w0 R0 => ?_)
  refine AW.seq ?_
  refine AW.region ?_
  refine AO.op (O.assign rfl rfl) rfl rfl rfl ?_
  refine AO.nil ?_
  refine AQ.thenN ?_
  refine AW.seq ?_
  refine AW.seq ?_
  refine AW.region ?_
  refine AO.op (O.move rfl rfl) rfl rfl rfl ?_
  refine AO.op (O.call rfl Try.func21 rfl rfl rfl (short06_fn _)) rfl rfl rfl ?_
  refine AO.op (O.not rfl rfl (by rfl)) rfl rfl rfl ?_
  refine AO.op (O.move rfl rfl) rfl rfl rfl ?_
  refine AO.opG rfl rfl rfl (fun hp => O.move rfl rfl) ?_
  refine AO.opG rfl rfl rfl (fun hp => OpW.force 22 rfl (by exact hp) (O.call rfl Try.func21 rfl rfl rfl (short06_fn _))) ?_
  refine AO.opG rfl rfl rfl (fun hp => OpW.force 23 rfl (by exact hp) (O.not rfl rfl (by rfl))) ?_
  refine AO.op (O.pickOr rfl rfl rfl rfl (fun h => by exact congrArg (fun b => !b) h)) rfl rfl rfl ?_
  refine AO.nil ?_
  refine AQ.thenN ?_
  refine AW.split rfl (fun h => ?_) (fun h => ?_) <;> (try simp only [decide_eq_true_eq, decide_eq_false_iff_not, beq_iff_eq, beq_eq_false_iff_ne, bne_iff_ne, bne_eq_false_iff_eq, Bool.not_eq_true', Bool.not_eq_false', Bool.not_eq_true, Bool.not_eq_false, ne_eq, Int.not_lt, Int.not_le, Bool.and_eq_true, Bool.or_eq_true, Bool.or_eq_false_iff, Bool.and_eq_false_imp, strOf_toList, Decidable.not_not] at h)
  · skip
    refine AW.seq ?_
    refine AW.region ?_
    refine AO.op (O.call rfl Try.func30 rfl rfl rfl (awake07_fn)) rfl rfl rfl ?_
    refine AO.op (O.assign rfl rfl) rfl rfl rfl ?_
    refine AO.nil ?_
    refine AQ.thenN ?_
    refine AW.ret ?_
    refine AQ.thenR ?_
    refine AQ.ret1 rfl rfl ⟨_, List.nil_sublist _, .nil⟩ (⟨rfl, rfl⟩)
  · skip
    refine AW.skip ?_
    refine AQ.thenN ?_
    refine AW.seq ?_
    refine AW.region ?_
    refine AO.op (O.move rfl rfl) rfl rfl rfl ?_
    refine AO.opN (O.call rfl Try.func25 rfl rfl rfl (params_fn _)) rfl rfl rfl ?_
    rintro _ _ ⟨⟨K1, N1, t1, rfl, hcv1⟩, rfl⟩
    simp only [List.cons_append, List.nil_append]
    refine AO.op (O.move rfl rfl) rfl rfl rfl ?_
    refine AO.op (O.extract rfl rfl rfl) rfl rfl rfl ?_
    refine AO.op (O.extract rfl rfl rfl) rfl rfl rfl ?_
    refine AO.op (O.extract rfl rfl rfl) rfl rfl rfl ?_
    refine AO.op (O.assign rfl rfl) rfl rfl rfl ?_
    refine AO.op (O.assign rfl rfl) rfl rfl rfl ?_
    refine AO.op (O.assign rfl rfl) rfl rfl rfl ?_
    refine AO.nil ?_
    refine AQ.thenN ?_
    refine AW.seq ?_
    refine AW.region ?_
    refine AO.op (O.move rfl rfl) rfl rfl rfl ?_
    refine AO.op (O.quo rfl rfl rfl (by omega) (by rfl)) rfl rfl rfl ?_
    refine AO.op (O.call rfl Try.func14 rfl rfl rfl (some_fn _ _ (by omega))) rfl rfl rfl ?_
    refine AO.op (O.assign rfl rfl) rfl rfl rfl ?_
    refine AO.nil ?_
    refine AQ.thenN ?_
    refine AW.seq ?_
    refine AW.region ?_
    refine AO.op (O.move rfl rfl) rfl rfl rfl ?_
    refine AO.op (O.move rfl rfl) rfl rfl rfl ?_
    refine AO.op (O.move rfl rfl) rfl rfl rfl ?_
    refine AO.op (O.move rfl rfl) rfl rfl rfl ?_
    refine AO.op (O.move rfl rfl) rfl rfl rfl ?_
    refine AO.op (O.call rfl Try.func31 rfl rfl rfl (seal_fn _ _ aad plain _ (by omega) (by omega))) rfl rfl rfl ?_
    refine AO.op (O.move rfl rfl) rfl rfl rfl ?_
    refine AO.op (O.extract rfl rfl rfl) rfl rfl rfl ?_
    refine AO.op (O.extract rfl rfl rfl) rfl rfl rfl ?_
    refine AO.op (O.assign rfl rfl) rfl rfl rfl ?_
    refine AO.op (O.assign rfl rfl) rfl rfl rfl ?_
    refine AO.nil ?_
    refine AQ.thenN ?_
    refine AW.seq ?_
    refine AW.region ?_
    refine AO.op (O.move rfl rfl) rfl rfl rfl ?_
    refine AO.op (O.move rfl rfl) rfl rfl rfl ?_
    refine AO.op (O.move rfl rfl) rfl rfl rfl ?_
    refine AO.op (O.move rfl rfl) rfl rfl rfl ?_
    (refine AO.op (O.callC rfl Try.func31 rfl rfl rfl (seal_fn _ _ [] plain _ (by decide) (by omega)) (by (repeat (first | exact CoeL.nil | refine CoeL.cons Coe.rfl ?_ | refine CoeL.cons Coe.nil ?_)); done)) rfl rfl rfl ?_)
    refine AO.op (O.move rfl rfl) rfl rfl rfl ?_
    refine AO.op (O.extract rfl rfl rfl) rfl rfl rfl ?_
    refine AO.op (O.extract rfl rfl rfl) rfl rfl rfl ?_
    refine AO.op (O.assign rfl rfl) rfl rfl rfl ?_
    refine AO.op (O.assign rfl rfl) rfl rfl rfl ?_
    refine AO.nil ?_
    refine AQ.thenN ?_
    refine AW.seq ?_
    refine AW.seq ?_
    refine AW.region ?_
    refine AO.op (O.move rfl rfl) rfl rfl rfl ?_
    refine AO.op (O.neq rfl rfl rfl (by rfl)) rfl rfl rfl ?_
    refine AO.op (O.move rfl rfl) rfl rfl rfl ?_
    refine AO.opG rfl rfl rfl (fun hp => O.move rfl rfl) ?_
    refine AO.opG rfl rfl rfl (fun hp => OpW.force 56 rfl (by exact hp) (O.neq rfl rfl rfl (by rfl))) ?_
    refine AO.op (O.pickOr rfl rfl rfl rfl (fun h => by exact congrArg (fun b => !b) h)) rfl rfl rfl ?_
    refine AO.op (O.move rfl rfl) rfl rfl rfl ?_
    refine AO.opG rfl rfl rfl (fun hp => O.move rfl rfl) ?_
    refine AO.opG rfl rfl rfl (fun hp => OpW.force 60 rfl (by exact hp) (O.lenR rfl rfl)) ?_
    refine AO.opG rfl rfl rfl (fun hp => O.move rfl rfl) ?_
    refine AO.opG rfl rfl rfl (fun hp => OpW.force 62 rfl (by exact hp) (O.lenR rfl rfl)) ?_
    refine AO.opG rfl rfl rfl (fun hp => O.move rfl rfl) ?_
    refine AO.opG rfl rfl rfl (fun hp => OpW.force 63 rfl (by exact hp) (OpW.force 64 rfl (by exact hp) (O.add rfl rfl rfl (by rfl)))) ?_
    refine AO.opG rfl rfl rfl (fun hp => OpW.force 61 rfl (by exact hp) (OpW.force 65 rfl (by exact hp) (O.neq rfl rfl rfl (by rfl)))) ?_
    refine AO.op (O.pickOr rfl rfl rfl rfl (fun h => by exact congrArg (fun b => !b) h)) rfl rfl rfl ?_
    refine AO.op (O.move rfl rfl) rfl rfl rfl ?_
    refine AO.opG rfl rfl rfl (fun hp => O.move rfl rfl) ?_
    refine AO.opG rfl rfl rfl (fun hp => OpW.force 69 rfl (by exact hp) (O.lenR rfl rfl)) ?_
    refine AO.opG rfl rfl rfl (fun hp => O.move rfl rfl) ?_
    refine AO.opG rfl rfl rfl (fun hp => OpW.force 71 rfl (by exact hp) (O.lenR rfl rfl)) ?_
    refine AO.opG rfl rfl rfl (fun hp => OpW.force 70 rfl (by exact hp) (OpW.force 72 rfl (by exact hp) (O.neq rfl rfl rfl (by rfl)))) ?_
    refine AO.op (O.pickOr rfl rfl rfl rfl (fun h => by exact congrArg (fun b => !b) h)) rfl rfl rfl ?_
    refine AO.nil ?_
    refine AQ.thenN ?_
    obtain ⟨N, hN⟩ : ∃ N, N = someL (IntKind.i64.wrap (n.tdiv 3)) (13 : Int).toNat := ⟨_, rfl⟩
    rw [← hN]
    have hNl : N.length = 13 := by rw [hN, someL_len]; rfl
    obtain ⟨hk, _, _, ht4, ht16, ht2⟩ := cvB_bd hcv1
    have hcv : cvB K1 N t1 = true := cvB_of ⟨hk, by omega, by omega, ht4, ht16, ht2⟩
    obtain ⟨a1, a2, a3⟩ := seal_str (aad := aad) (plain := plain) hcv (by omega) (by omega)
    obtain ⟨b1, b2, b3⟩ := seal_str (aad := []) (plain := plain) hcv (by decide) (by omega)
    rw [a1, b1]
    obtain ⟨L1, hL1⟩ : ∃ L, L = sealL K1 N aad plain t1 := ⟨_, rfl⟩
    obtain ⟨L2, hL2⟩ : ∃ L, L = sealL K1 N [] plain t1 := ⟨_, rfl⟩
    rw [← hL1] at a2 a3 ⊢
    rw [← hL2] at b2 b3 ⊢
    have hw64 : IntKind.i64.wrap ((plain.length : Int) + t1) = (plain.length : Int) + t1 := by
      rw [IntKind.wrap_i64]; omega
    rw [hw64]
    refine AW.split rfl (fun h74 => ?_) (fun h74 => ?_) <;> (try simp only [decide_eq_true_eq, decide_eq_false_iff_not, beq_iff_eq, beq_eq_false_iff_ne, bne_iff_ne, bne_eq_false_iff_eq, Bool.not_eq_true', Bool.not_eq_false', Bool.not_eq_true, Bool.not_eq_false, ne_eq, Int.not_lt, Int.not_le, Bool.and_eq_true, Bool.or_eq_true, Bool.or_eq_false_iff, Bool.and_eq_false_imp, strOf_toList, Decidable.not_not] at h74)
    · skip
      exfalso
      simp only [not_true_eq_false, false_or] at h74
      omega
    · skip
      refine AW.skip ?_
      refine AQ.thenN ?_
      refine AW.seq ?_
      refine AW.seq ?_
      refine AW.region ?_
      refine AO.op (O.move rfl rfl) rfl rfl rfl ?_
      refine AO.op (O.lenR rfl rfl) rfl rfl rfl ?_
      refine AO.op (O.move rfl rfl) rfl rfl rfl ?_
      refine AO.nil ?_
      refine AQ.thenN ?_
      refine AW.block ?_
      refine AW.loopK [(1, _), (7, _), (10, _), (11, _), (13, _), (76, _)] (fun nn E H => ∃ (i : Nat), (i ≤ plain.length) ∧ nn = plain.length - i ∧ E = [(77, .val (.int .i64 (i : Int)))] ∧ H = []) _ (⟨0, by omega, rfl, rfl, rfl⟩) (by repeat (first | exact envNil | refine envCons rfl ?_)) (by repeat (first | exact envNil | refine envCons rfl ?_)) (by repeat (exact subPnil)) ?_
      rintro nn E H ⟨i, hi, rfl, rfl, rfl⟩
      dsimp only [List.cons_append, List.nil_append]
      refine AW.seq ?_
      refine AW.region ?_
      refine AO.op (O.lss rfl rfl rfl (by rfl)) rfl rfl rfl ?_
      refine AO.nil ?_
      refine AQ.thenN ?_
      refine AW.seq ?_
      refine AW.split rfl (fun h3 => ?_) (fun h3 => ?_) <;> (try simp only [decide_eq_true_eq, decide_eq_false_iff_not, beq_iff_eq, beq_eq_false_iff_ne, bne_iff_ne, bne_eq_false_iff_eq, Bool.not_eq_true', Bool.not_eq_false', Bool.not_eq_true, Bool.not_eq_false, ne_eq, Int.not_lt, Int.not_le, Bool.and_eq_true, Bool.or_eq_true, Bool.or_eq_false_iff, Bool.and_eq_false_imp, strOf_toList, Decidable.not_not] at h3)
      · skip
        have hi' : i < plain.length := by omega
        have ei : (i : Int) / 16 = ((i / 16 : Nat) : Int) := by omega
        have hz := enc13_fn K1 N hk hNl (1 + (i : Int) / 16) ⟨by omega, by omega⟩
        obtain ⟨z, hzd⟩ : ∃ z, z = enc (wK K1) (blkF (u8 (14 - (N.length : Int))) N (1 + (i : Int) / 16)) := ⟨_, rfl⟩
        have er : roB ([1] ++ N ++ [0, u8 (1 + (i : Int) / 16)]) = AV.ro false (1 + N.length + 2) (AV.val (.int .u8 1) :: (bytesA N ++ [AV.val (.int .u8 0), AV.val (.int .u8 ((u8 (1 + (i : Int) / 16)).toNat : Int))])) := by
          unfold roB
          rw [List.length_append, List.length_append]
          simp only [bytesA, List.map_append]; rfl
        rw [← hzd, er] at hz
        have hg : ∀ (l : List UInt8), i < l.length → (bytesA l)[(i : Int).toNat * 1]? = some (by8 (kf l i)) := fun l hl => by
          rw [arB_kf]; exact arB_get (by omega) (by omega)
        have hg1 := hg L1 (by omega)
        have hg2 := hg L2 (by omega)
        have hg3 := hg plain hi'
        have hs : strF (wK K1) N plain i = kf plain i ^^^ z (i % 16) := by
          rw [strF, hzd, ei, Int.add_comm]
        rw [a3 i hi', hs] at hg1
        rw [b3 i hi', hs] at hg2
        have hg4 : (bytesA (fnB 16 z))[((i : Int) % 16).toNat * 1]? = some (by8 (z (i % 16))) := by
          show (arB 16 z)[_]? = _
          exact arB_get (by omega) (by omega)
        refine AW.skip ?_
        refine AQ.thenN ?_
        refine AW.seq ?_
        refine AW.block ?_
        refine AW.seq ?_
        refine AW.region ?_
        refine AO.op (O.move rfl rfl) rfl rfl rfl ?_
        refine AO.op (O.assign rfl rfl) rfl rfl rfl ?_
        refine AO.nil ?_
        refine AQ.thenN ?_
        refine AW.seq ?_
        refine AW.region ?_
        refine AO.op (O.move rfl rfl) rfl rfl rfl ?_
        refine AO.opB (O.buildSlice rfl rfl rfl (by rfl) (by rfl) (by rfl) (by rfl)) rfl rfl rfl ?_
        intro B2
        refine AO.g ?_
        refine G.closeRow (b := B2) (n := 1) (cap := 1) 0 rfl rfl rfl (Nat.le_refl _) (by (unfold maxLen; omega)) ?_
        refine AO.u ?_
        dsimp only [List.set]
        refine AO.op (O.move rfl rfl) rfl rfl rfl ?_
        (refine AO.append' (i := 0) rfl rfl rfl rfl (by rfl) (by rfl) rfl rfl rfl (by exact SrcA.ro TyD.ax (by (simp; done)) (Nat.le_of_ble_eq_true rfl)) (by (simp [AV.cells, AV.one, *]; done)) (by (unfold maxLen; omega)) (by omega) (by (dsimp only [List.set, List.append, List.cons_append, List.nil_append, roB_cells, roI_cells, roO_cells, splice, ofConst, AV.cells, List.map, List.map_cons, List.map_nil, List.take, List.drop, Nat.zero_add, Nat.add_zero, Nat.reduceAdd, Nat.reduceMul, Nat.zero_mul, Value.cells, List.toList_toArray, zerosA, List.replicate, List.flatten, List.append_nil]; done)) (fun _ => by (dsimp only [List.set]; done)) ?_)
        intro V3 hV3
        refine AO.op (O.move rfl rfl) rfl rfl rfl ?_
        refine AO.op (O.quo rfl rfl rfl (by omega) (quoE ⟨by omega, by omega⟩ (by omega))) rfl rfl rfl ?_
        refine AO.op (O.add rfl rfl rfl (by exact wI64 (by omega))) rfl rfl rfl ?_
        refine AO.op (O.conv rfl rfl wU8any) rfl rfl rfl ?_
        refine AO.opB (O.buildSliceF rfl rfl rfl (by rfl) (by rfl) (by rfl) (by rfl) (by rfl)) rfl rfl rfl ?_
        intro B4
        refine AO.g ?_
        (refine G.freezeSl 0 89 rfl rfl ⟨Nat.le_refl _, by unfold maxLen; omega⟩ ?_)
        refine G.unfull 89 rfl ?_
        refine AO.u ?_
        dsimp only [List.eraseIdx]
        (refine AO.append' (i := 0) rfl rfl rfl rfl (by rfl) (by rfl) rfl rfl rfl (by exact SrcA.ro TyD.ax (by rfl) (Nat.le_of_ble_eq_true rfl)) (by rfl) (by (unfold maxLen; omega)) (by omega) (by (dsimp only [List.set, List.append, List.cons_append, List.nil_append, roB_cells, roI_cells, roO_cells, splice, ofConst, AV.cells, List.map, List.map_cons, List.map_nil, List.take, List.drop, Nat.zero_add, Nat.add_zero, Nat.reduceAdd, Nat.reduceMul, Nat.zero_mul, Value.cells, List.toList_toArray, zerosA, List.replicate, List.flatten, List.append_nil]; done)) (fun _ => by (dsimp only [List.set]; done)) ?_)
        intro V5 hV5
        refine AO.g ?_
        refine G.freezeRow 0 rfl [90] (by repeat (first | exact frNil | refine frCons rfl ?_)) ?_
        refine AO.u ?_
        dsimp only [List.map, List.eraseIdx, List.cons_append, List.nil_append]
        refine AO.op (O.call rfl Try.func20 rfl rfl rfl (hz)) rfl rfl rfl ?_
        refine AO.op (O.move rfl rfl) rfl rfl rfl ?_
        refine AO.op (O.extract rfl rfl rfl) rfl rfl rfl ?_
        refine AO.op (O.extract rfl rfl rfl) rfl rfl rfl ?_
        refine AO.op (O.assign rfl rfl) rfl rfl rfl ?_
        refine AO.op (O.assign rfl rfl) rfl rfl rfl ?_
        refine AO.nil ?_
        refine AQ.thenN ?_
        refine AW.seq ?_
        refine AW.regionD 35 (by kernel_rfl) (by kernel_rfl) ?_
        simp only [List.take_succ_cons, List.take_zero, List.drop_succ_cons, List.drop_zero]
        refine FA.op (O.move rfl rfl) rfl rfl rfl rfl ?_
        refine FA.op (O.neq rfl rfl rfl (by exact bne_eq_false_iff_eq.2 (by omega))) rfl rfl rfl rfl ?_
        refine FA.op (O.move rfl rfl) rfl rfl rfl rfl ?_
        refine FA.opG rfl rfl rfl rfl (fun hp => O.move rfl rfl) ?_
        refine FA.opG rfl rfl rfl rfl (fun hp => OpW.force 97 rfl (by exact hp) (O.lenR rfl rfl)) ?_
        refine FA.opG rfl rfl rfl rfl (fun hp => OpW.force 98 rfl (by exact hp) (O.neq rfl rfl rfl (by rfl))) ?_
        refine FA.op (O.pickOr rfl rfl rfl rfl (fun h => by exact congrArg (fun b => !b) h)) rfl rfl rfl rfl ?_
        refine FA.op (O.move rfl rfl) rfl rfl rfl rfl ?_
        refine FA.opG rfl rfl rfl rfl (fun hp => O.move rfl rfl) ?_
        refine FA.opG rfl rfl rfl rfl (fun hp => O.move rfl rfl) ?_
        refine FA.opG rfl rfl rfl rfl (fun hp => OpW.force 102 rfl (by exact hp) (OpW.force 103 rfl (by exact hp) (O.idxR rfl rfl rfl ⟨(by omega), (by omega)⟩))) ?_
        refine FA.opG rfl rfl rfl rfl (fun hp => OpW.force 104 rfl (by exact hp) (O.loadR rfl rfl (by exact hg1))) ?_
        refine FA.opG rfl rfl rfl rfl (fun hp => O.move rfl rfl) ?_
        refine FA.opG rfl rfl rfl rfl (fun hp => O.move rfl rfl) ?_
        refine FA.opG rfl rfl rfl rfl (fun hp => OpW.force 106 rfl (by exact hp) (OpW.force 107 rfl (by exact hp) (O.idxR rfl rfl rfl ⟨(by omega), (by omega)⟩))) ?_
        refine FA.opG rfl rfl rfl rfl (fun hp => OpW.force 108 rfl (by exact hp) (O.loadR rfl rfl (by exact hg3))) ?_
        refine FA.opG rfl rfl rfl rfl (fun hp => O.move rfl rfl) ?_
        refine FA.opG rfl rfl rfl rfl (fun hp => O.move rfl rfl) ?_
        refine FA.opG rfl rfl rfl rfl (fun hp => OpW.force 111 rfl (by exact hp) (O.rem rfl rfl rfl (by omega) (tmodE (by omega)))) ?_
        (refine FA.opG rfl rfl rfl rfl (fun hp => OpW.force 110 rfl (by exact hp) (OpW.force 112 rfl (by exact hp) (O.idxR rfl rfl rfl ⟨(by omega), (by (simp only [cond_true, cond_false, Bool.not_eq_true', Bool.not_eq_false', Bool.and_eq_true, Bool.or_eq_true, Bool.or_eq_false_iff, Bool.and_eq_false_imp, decide_eq_true_eq, decide_eq_false_iff_not, beq_iff_eq, bne_iff_ne, bne_eq_false_iff_eq, ne_eq] at hp; omega))⟩))) ?_)
        refine FA.opG rfl rfl rfl rfl (fun hp => OpW.force 113 rfl (by exact hp) (O.loadR rfl rfl (by exact hg4))) ?_
        refine FA.opG rfl rfl rfl rfl (fun hp => OpW.force 109 rfl (by exact hp) (OpW.force 114 rfl (by exact hp) (O.xor_ rfl rfl rfl xorU8))) ?_
        refine FA.opG rfl rfl rfl rfl (fun hp => OpW.force 105 rfl (by exact hp) (OpW.force 115 rfl (by exact hp) (O.neq rfl rfl rfl (by exact bne_eq_false_iff_eq.2 (by omega))))) ?_
        refine FA.op (O.pickOr rfl rfl rfl rfl (fun h => by exact congrArg (fun b => !b) h)) rfl rfl rfl rfl ?_
        refine FA.op (O.move rfl rfl) rfl rfl rfl rfl ?_
        refine FA.opG rfl rfl rfl rfl (fun hp => O.move rfl rfl) ?_
        refine FA.opG rfl rfl rfl rfl (fun hp => O.move rfl rfl) ?_
        refine FA.opG rfl rfl rfl rfl (fun hp => OpW.force 119 rfl (by exact hp) (OpW.force 120 rfl (by exact hp) (O.idxR rfl rfl rfl ⟨(by omega), (by omega)⟩))) ?_
        refine FA.opG rfl rfl rfl rfl (fun hp => OpW.force 121 rfl (by exact hp) (O.loadR rfl rfl (by exact hg2))) ?_
        refine FA.opG rfl rfl rfl rfl (fun hp => O.move rfl rfl) ?_
        refine FA.opG rfl rfl rfl rfl (fun hp => O.move rfl rfl) ?_
        refine FA.opG rfl rfl rfl rfl (fun hp => OpW.force 123 rfl (by exact hp) (OpW.force 124 rfl (by exact hp) (O.idxR rfl rfl rfl ⟨(by omega), (by omega)⟩))) ?_
        refine FA.opG rfl rfl rfl rfl (fun hp => OpW.force 125 rfl (by exact hp) (O.loadR rfl rfl (by exact hg1))) ?_
        refine FA.opG rfl rfl rfl rfl (fun hp => OpW.force 122 rfl (by exact hp) (OpW.force 126 rfl (by exact hp) (O.neq rfl rfl rfl (by exact bne_eq_false_iff_eq.2 (by omega))))) ?_
        refine FA.op (O.pickOr rfl rfl rfl rfl (fun h => by exact congrArg (fun b => !b) h)) rfl rfl rfl rfl ?_
        refine FA.nil ?_
        simp only [chosen, List.nil_append, List.cons_append, List.append_nil]
        refine AO.nil ?_
        refine AQ.thenN ?_
        refine AW.split rfl (fun h128 => ?_) (fun h128 => ?_) <;> (try simp only [decide_eq_true_eq, decide_eq_false_iff_not, beq_iff_eq, beq_eq_false_iff_ne, bne_iff_ne, bne_eq_false_iff_eq, Bool.not_eq_true', Bool.not_eq_false', Bool.not_eq_true, Bool.not_eq_false, ne_eq, Int.not_lt, Int.not_le, Bool.and_eq_true, Bool.or_eq_true, Bool.or_eq_false_iff, Bool.and_eq_false_imp, strOf_toList, Decidable.not_not] at h128)
        · skip
          exfalso
          rw [fnB_len] at h128
          simp at h128
        · skip
          refine AW.skip ?_
          refine AQ.blockN ?_
          refine AQ.thenN ?_
          refine AW.region ?_
          refine AO.op (O.add rfl rfl rfl (by exact wI64 (by omega))) rfl rfl rfl ?_
          refine AO.op (O.move rfl rfl) rfl rfl rfl ?_
          refine AO.nil ?_
          refine AQ.loopKN _ _ _ (by omega) (⟨i + 1, by omega, rfl, rfl, rfl⟩) (by repeat (first | exact envNil | refine envCons rfl ?_)) (by repeat (first | exact envNil | refine envCons rfl ?_)) (by repeat (exact subPnil))
      · skip
        refine AW.exit ?_
        refine AQ.thenX ?_
        refine AQ.loopX ?_
        refine AQ.blockX rfl ?_
        refine AQ.thenN ?_
        refine AW.seq ?_
        refine AW.region ?_
        refine AO.op (O.call rfl Try.func30 rfl rfl rfl (awake07_fn)) rfl rfl rfl ?_
        refine AO.op (O.assign rfl rfl) rfl rfl rfl ?_
        refine AO.nil ?_
        refine AQ.thenN ?_
        refine AW.ret ?_
        refine AQ.ret1 rfl rfl ⟨_, List.nil_sublist _, .nil⟩ (⟨rfl, rfl⟩)
end Go.Proofs.Ytochjihddnkhcaa.By

namespace Go.Proofs.Ytochjihddnkhcaa.By
open Go.RowKit L A
set_option linter.unusedVariables false
set_option linter.unusedSimpArgs false
attribute [local irreducible] AW AQ AO
attribute [local simp] arB_len
/-- What opening yields: the text and the error. -/
def openOk (aad cipher : List UInt8) (tag : Int) : Bool := decide ((aad.length : Int) ≤ 4096) && decide ((cipher.length : Int) ≤ 4096 + tag)
def openT (key nonce cipher : List UInt8) (tag : Int) : List UInt8 := fnB (cipher.length - tag.toNat) (strF (wK key) nonce (cipher.take (cipher.length - tag.toNat)))
def openB (key nonce aad cipher : List UInt8) (tag : Int) : Bool := sealL key nonce aad (openT key nonce cipher tag) tag == cipher
def openL (key nonce aad cipher : List UInt8) (tag : Int) : List UInt8 :=
  if cvB key nonce tag && openOk aad cipher tag && decide (tag ≤ (cipher.length : Int)) && openB key nonce aad cipher tag then openT key nonce cipher tag else []
def openE (key nonce aad cipher : List UInt8) (tag : Int) : Int :=
  if cvB key nonce tag then (if openOk aad cipher tag then (if tag ≤ (cipher.length : Int) then (if openB key nonce aad cipher tag then 0 else 11) else 2) else 8) else 1
end Go.Proofs.Ytochjihddnkhcaa.By

namespace Go.Proofs.Ytochjihddnkhcaa.By
open Go.RowKit L A
set_option linter.unusedVariables false
theorem xor_xor (a b : UInt8) : a ^^^ b ^^^ b = a := by rw [UInt8.xor_assoc, UInt8.xor_self, UInt8.xor_zero]
theorem strF_strF (w : Nat → UInt8) (nonce t : List UInt8) (i : Nat) (h : i < t.length) : strF w nonce (fnB t.length (strF w nonce t)) i = kf t i := by
  rw [strF, kf_fnB h, strF, xor_xor]
theorem str_back (w : Nat → UInt8) (nonce t : List UInt8) : fnB t.length (strF w nonce (fnB t.length (strF w nonce t))) = t := by
  rw [fnB_congr (fun i hi => strF_strF w nonce t i hi), fnB_kf rfl]
theorem fnB_inj {n : Nat} {f g : Nat → UInt8} (h : fnB n f = fnB n g) : ∀ q, q < n → f q = g q := fun q hq => by
  have := congrArg (fun l => kf l q) h
  simpa only [kf_fnB hq] using this
/-- The tag that was sent, as sixteen bytes. -/
def gotF (cipher : List UInt8) (n T : Nat) (q : Nat) : UInt8 := if q < T then kf cipher (n + q) else 0
theorem open_eq {key nonce aad cipher : List UInt8} {tag : Int} {n T : Nat} (hcv : cvB key nonce tag = true) (hT : tag = (T : Int)) (hl : cipher.length = n + T) (ha : aad.length ≤ 4096) (hn : n ≤ 4096) :
    openB key nonce aad cipher tag = decide (fnB T (tagF (wK key) nonce (gotF cipher n T)) = fnB T (macF (wK key) nonce aad (openT key nonce cipher tag) tag)) := by
  have hct : (cipher.take n).length = n := by rw [List.length_take]; omega
  have hPT : openT key nonce cipher tag = fnB n (strF (wK key) nonce (cipher.take n)) := by rw [openT, hT, show cipher.length - (T : Int).toNat = n by omega]
  obtain ⟨PT, hP⟩ : ∃ PT, PT = openT key nonce cipher tag := ⟨_, rfl⟩
  have hPl : PT.length = n := by rw [hP, hPT, fnB_len]
  have hso : sealOk aad PT = true := by
    simp only [sealOk, Bool.and_eq_true, decide_eq_true_eq]; omega
  have hb : fnB n (strF (wK key) nonce PT) = cipher.take n := by
    have := str_back (wK key) nonce (cipher.take n)
    rw [hct] at this
    rw [hP, hPT]; exact this
  obtain ⟨M, hM⟩ : ∃ M, M = macF (wK key) nonce aad PT tag := ⟨_, rfl⟩
  have hs : sealL key nonce aad PT tag = cipher.take n ++ fnB T (tagF (wK key) nonce M) := by
    rw [(seal_good hcv hso).1, hPl, hb, ← hM, hT]; rfl
  rw [openB, ← hP, hs, ← hM]
  have hd : cipher.drop n = fnB T (fun q => kf cipher (n + q)) := by
    apply List.ext_getElem
    · rw [List.length_drop, fnB_len]; omega
    · intro q h1 h2
      rw [fnB_len] at h2
      have g : ∀ (N : Nat) (f : Nat → UInt8) (q : Nat) (h : q < (fnB N f).length), (fnB N f)[q] = f q := fun N f q h => by simp [fnB]
      rw [g, List.getElem_drop, kf, List.getD_eq_getElem?_getD, List.getElem?_eq_getElem (by omega)]; rfl
  rw [Bool.eq_iff_iff, beq_iff_eq, decide_eq_true_eq]
  have h3 : (cipher.take n ++ fnB T (tagF (wK key) nonce M) = cipher) ↔ fnB T (tagF (wK key) nonce M) = cipher.drop n := by
    constructor
    · intro h
      have := congrArg (List.drop n) h
      rw [List.drop_left' hct] at this; exact this
    · intro h; rw [h, List.take_append_drop]
  rw [h3, hd]
  constructor
  · intro h
    have h4 := fnB_inj h
    exact fnB_congr fun q hq => by
      rw [tagF, gotF, if_pos hq, ← h4 q hq, tagF, xor_xor]
  · intro h
    have h4 := fnB_inj h
    exact fnB_congr fun q hq => by
      have := h4 q hq
      rw [tagF, gotF, if_pos hq] at this
      rw [tagF, ← this, xor_xor]
/-- What was sealed opens. -/
theorem open_seal {key nonce aad plain : List UInt8} {tag : Int} (hcv : cvB key nonce tag = true) (ha : aad.length ≤ 4096) (hp : plain.length ≤ 4096) :
    openL key nonce aad (sealL key nonce aad plain tag) tag = plain ∧ openE key nonce aad (sealL key nonce aad plain tag) tag = 0 := by
  obtain ⟨_, _, _, h4, h16, _⟩ := cvB_bd hcv
  have hso : sealOk aad plain = true := by
    simp only [sealOk, Bool.and_eq_true, decide_eq_true_eq]; omega
  obtain ⟨C, hC⟩ : ∃ C, C = sealL key nonce aad plain tag := ⟨_, rfl⟩
  have hs := (seal_good (aad := aad) (plain := plain) hcv hso).1
  rw [← hC] at hs ⊢
  have hl : C.length = plain.length + tag.toNat := by rw [hs, List.length_append, fnB_len, fnB_len]
  have ht : C.take (C.length - tag.toNat) = fnB plain.length (strF (wK key) nonce plain) := by
    rw [hl, Nat.add_sub_cancel, hs, List.take_left' (fnB_len _ _)]
  have hP : openT key nonce C tag = plain := by
    rw [openT, ht, hl, Nat.add_sub_cancel]; exact str_back _ _ _
  have hB : openB key nonce aad C tag = true := by rw [openB, hP, ← hC]; exact beq_self_eq_true _
  have hok : openOk aad C tag = true := by
    simp only [openOk, Bool.and_eq_true, decide_eq_true_eq]; omega
  have hle : tag ≤ (C.length : Int) := by omega
  exact ⟨by simp [openL, hcv, hok, hle, hB, hP], by simp [openE, hcv, hok, hle, hB]⟩
/-- What opens was sealed so. -/
theorem seal_open {key nonce aad cipher : List UInt8} {tag : Int} (h : openE key nonce aad cipher tag = 0) : sealL key nonce aad (openL key nonce aad cipher tag) tag = cipher ∧ sealE key nonce aad (openL key nonce aad cipher tag) tag = 0 := by
  unfold openE at h
  by_cases h1 : cvB key nonce tag = true
  · rw [if_pos h1] at h
    by_cases h2 : openOk aad cipher tag = true
    · rw [if_pos h2] at h
      by_cases h3 : tag ≤ (cipher.length : Int)
      · rw [if_pos h3] at h
        by_cases h4 : openB key nonce aad cipher tag = true
        · have e : openL key nonce aad cipher tag = openT key nonce cipher tag := by simp [openL, h1, h2, h3, h4]
          rw [e]
          have h5 : sealL key nonce aad (openT key nonce cipher tag) tag = cipher := by simpa [openB] using h4
          obtain ⟨_, _, _, g4, g16, _⟩ := cvB_bd h1
          have hso : sealOk aad (openT key nonce cipher tag) = true := by
            simp only [openOk, Bool.and_eq_true, decide_eq_true_eq] at h2
            simp only [sealOk, Bool.and_eq_true, decide_eq_true_eq, openT, fnB_len]; omega
          exact ⟨h5, by rw [sealE, if_pos h1, if_pos hso]⟩
        · rw [if_neg h4] at h; omega
      · rw [if_neg h3] at h; omega
    · rw [if_neg h2] at h; omega
  · rw [if_neg h1] at h; omega
end Go.Proofs.Ytochjihddnkhcaa.By

namespace Go.Proofs.Ytochjihddnkhcaa.By
open Go.RowKit L A
set_option linter.unusedVariables false
set_option linter.unusedSimpArgs false
attribute [local irreducible] AW AQ AO
attribute [local simp] arB_len
theorem copyTag {cipher : List UInt8} {n T : Nat} (hl : cipher.length = n + T) (hT : T ≤ 16) : splice (arB 16 fun _ => 0) (0 + 0 * 1) ((bytesA (cipher.drop n)).take (min (cipher.drop n).length (16 - 0))) = arB 16 (gotF cipher n T) := by
  have hd : (cipher.drop n).length = T := by rw [List.length_drop]; omega
  have e : bytesA (cipher.drop n) = arB T (gotF cipher n T) := by
    rw [arB_kf, hd]
    exact arB_congr fun q hq => by
      rw [gotF, if_pos hq]; simp [kf, List.getElem?_drop]
  rw [e, List.take_of_length_le (by rw [arB_len]; omega)]
  rw [arB_splice (by omega)]
  exact arB_congr fun q hq => by
    by_cases h : q < T
    · rw [if_pos (by omega), show q - (0 + 0 * 1) = q by omega]
    · rw [if_neg (by omega), gotF, if_neg h]
theorem equal7_fn (x y : List UInt8) : Sp Try.prog 51 [roB x, roB y] [] (Is (.val (.bool (decide (x = y))))) := by
  refine Sp.enter Try.func51 rfl _ Try.ntmps51 rfl (fun w0 R0 => ?_)
  refine AW.seq ?_
  refine AW.region ?_
  refine AO.op (O.assign rfl rfl) rfl rfl rfl ?_
  refine AO.nil ?_
  refine AQ.thenN ?_
  refine AW.seq ?_
  refine AW.region ?_
  refine AO.op (O.move rfl rfl) rfl rfl rfl ?_
  refine AO.op (O.convS rfl rfl (by rfl)) rfl rfl rfl ?_
  refine AO.op (O.move rfl rfl) rfl rfl rfl ?_
  refine AO.op (O.convS rfl rfl (by rfl)) rfl rfl rfl ?_
  refine AO.op (O.eqlS rfl rfl rfl (by rfl)) rfl rfl rfl ?_
  refine AO.op (O.assign rfl rfl) rfl rfl rfl ?_
  refine AO.nil ?_
  refine AQ.thenN ?_
  refine AW.ret ?_
  have e : decide (x = y) = (x == y) := dec_eq (by simp)
  refine AQ.ret1 rfl rfl ⟨_, List.nil_sublist _, .nil⟩ (⟨by rw [strOf_toList, strOf_toList, e], rfl⟩)
theorem aggPlain (n : Nat) (f : Nat → UInt8) : PlainP (Is (.agg (arB n f))) := by
  rintro r Hn ⟨rfl, rfl⟩
  refine ⟨fun R R' W u h => ?_, fun e he => by cases he⟩
  cases h with
  | agg _ cs hs hc => exact .agg _ cs hs fun j hj => (hc j hj).plain (vals_arB n f _ (List.getElem_mem hj))
set_option maxHeartbeats 4000000 in
theorem open_fn (key nonce aad cipher : List UInt8) (tag : Int) (ha : aad.length ≤ 1000000) (hp : cipher.length ≤ 1000000) : Sp Try.prog 34 [roB key, roB nonce, roB aad, roB cipher, .val (.int .i64 tag)] [] (Is (.tup [roB (openL key nonce aad cipher tag), .val (.int .i64 (openE key nonce aad cipher tag))])) := by
  refine Sp.enter Try.func34 rfl _ Try.ntmps34 rfl (fun w0 R0 => ?_)
  refine AW.seq ?_
  refine AW.region ?_
  refine AO.op (O.assign rfl rfl) rfl rfl rfl ?_
  refine AO.op (O.assign rfl rfl) rfl rfl rfl ?_
  refine AO.nil ?_
  refine AQ.thenN ?_
  refine AW.seq ?_
  refine AW.block ?_
  refine AW.seq ?_
  refine AW.region ?_
  refine AO.op (O.move rfl rfl) rfl rfl rfl ?_
  refine AO.op (O.move rfl rfl) rfl rfl rfl ?_
  refine AO.op (O.move rfl rfl) rfl rfl rfl ?_
  refine AO.op (O.call rfl Try.func26 rfl rfl rfl (cvalid_fn key nonce _)) rfl rfl rfl ?_
  refine AO.op (O.not rfl rfl (by rfl)) rfl rfl rfl ?_
  refine AO.op (O.assign rfl rfl) rfl rfl rfl ?_
  refine AO.nil ?_
  refine AQ.thenN ?_
  refine AW.split rfl (fun h => ?_) (fun h => ?_) <;> (try simp only [decide_eq_true_eq, decide_eq_false_iff_not, beq_iff_eq, beq_eq_false_iff_ne, bne_iff_ne, bne_eq_false_iff_eq, Bool.not_eq_true', Bool.not_eq_false', Bool.not_eq_true, Bool.not_eq_false, ne_eq, Int.not_lt, Int.not_le, Bool.and_eq_true, Bool.or_eq_true, Bool.or_eq_false_iff, Bool.and_eq_false_imp, strOf_toList, Decidable.not_not] at h)
  · skip
    have hb : cvB key nonce tag = false := by simpa using h
    have e1 : openL key nonce aad cipher tag = [] := by simp [openL, hb]
    have e2 : openE key nonce aad cipher tag = 1 := by simp [openE, hb]
    rw [e1, e2]
    refine AW.seq ?_
    refine AW.region ?_
    refine AO.op (O.assign rfl rfl) rfl rfl rfl ?_
    refine AO.op (O.assign rfl rfl) rfl rfl rfl ?_
    refine AO.nil ?_
    refine AQ.thenN ?_
    refine AW.ret ?_
    refine AQ.blockR ?_
    refine AQ.thenR ?_
    refine FnQ.coe (AQ.ret2 rfl rfl rfl ⟨_, List.nil_sublist _, .nil⟩ ⟨rfl, rfl⟩) (Coe.tup (by (repeat (first | exact CoeL.nil | refine CoeL.cons Coe.rfl ?_ | refine CoeL.cons Coe.nil ?_)); done)) (⟨rfl, rfl⟩)
  · skip
    obtain ⟨hk, hn7, hn13, ht4, ht16, ht2⟩ := cvB_bd h
    refine AW.seq ?_
    refine AW.region ?_
    refine AO.op (O.move rfl rfl) rfl rfl rfl ?_
    refine AO.op (O.lenR rfl rfl) rfl rfl rfl ?_
    refine AO.op (O.gtr rfl rfl rfl (by rfl)) rfl rfl rfl ?_
    refine AO.op (O.move rfl rfl) rfl rfl rfl ?_
    refine AO.opG rfl rfl rfl (fun hp => O.move rfl rfl) ?_
    refine AO.opG rfl rfl rfl (fun hp => OpW.force 29 rfl (by exact hp) (O.lenR rfl rfl)) ?_
    refine AO.opG rfl rfl rfl (fun hp => O.move rfl rfl) ?_
    refine AO.opG rfl rfl rfl (fun hp => OpW.force 31 rfl (by exact hp) (O.add rfl rfl rfl (by exact wI64 (by omega)))) ?_
    refine AO.opG rfl rfl rfl (fun hp => OpW.force 30 rfl (by exact hp) (OpW.force 32 rfl (by exact hp) (O.gtr rfl rfl rfl (by rfl)))) ?_
    refine AO.op (O.pickOr rfl rfl rfl rfl (fun h => by exact congrArg (fun b => !b) h)) rfl rfl rfl ?_
    refine AO.op (O.assign rfl rfl) rfl rfl rfl ?_
    refine AO.nil ?_
    refine AQ.thenN ?_
    refine AW.split rfl (fun h2 => ?_) (fun h2 => ?_) <;> (try simp only [decide_eq_true_eq, decide_eq_false_iff_not, beq_iff_eq, beq_eq_false_iff_ne, bne_iff_ne, bne_eq_false_iff_eq, Bool.not_eq_true', Bool.not_eq_false', Bool.not_eq_true, Bool.not_eq_false, ne_eq, Int.not_lt, Int.not_le, Bool.and_eq_true, Bool.or_eq_true, Bool.or_eq_false_iff, Bool.and_eq_false_imp, strOf_toList, Decidable.not_not] at h2)
    · skip
      have hb : openOk aad cipher tag = false := by
        simp only [openOk, Bool.and_eq_false_iff, decide_eq_false_iff_not]
        omega
      have e1 : openL key nonce aad cipher tag = [] := by simp [openL, hb]
      have e2 : openE key nonce aad cipher tag = 8 := by simp [openE, h, hb]
      rw [e1, e2]
      refine AW.seq ?_
      refine AW.region ?_
      refine AO.op (O.assign rfl rfl) rfl rfl rfl ?_
      refine AO.op (O.assign rfl rfl) rfl rfl rfl ?_
      refine AO.nil ?_
      refine AQ.thenN ?_
      refine AW.ret ?_
      refine AQ.blockR ?_
      refine AQ.thenR ?_
      refine FnQ.coe (AQ.ret2 rfl rfl rfl ⟨_, List.nil_sublist _, .nil⟩ ⟨rfl, rfl⟩) (Coe.tup (by (repeat (first | exact CoeL.nil | refine CoeL.cons Coe.rfl ?_ | refine CoeL.cons Coe.nil ?_)); done)) (⟨rfl, rfl⟩)
    · skip
      have hb : openOk aad cipher tag = true := by
        simp only [openOk, Bool.and_eq_true, decide_eq_true_eq]
        omega
      refine AW.seq ?_
      refine AW.region ?_
      refine AO.op (O.move rfl rfl) rfl rfl rfl ?_
      refine AO.op (O.lenR rfl rfl) rfl rfl rfl ?_
      refine AO.op (O.move rfl rfl) rfl rfl rfl ?_
      refine AO.op (O.lss rfl rfl rfl (by rfl)) rfl rfl rfl ?_
      refine AO.op (O.assign rfl rfl) rfl rfl rfl ?_
      refine AO.nil ?_
      refine AQ.thenN ?_
      refine AW.split rfl (fun h3 => ?_) (fun h3 => ?_) <;> (try simp only [decide_eq_true_eq, decide_eq_false_iff_not, beq_iff_eq, beq_eq_false_iff_ne, bne_iff_ne, bne_eq_false_iff_eq, Bool.not_eq_true', Bool.not_eq_false', Bool.not_eq_true, Bool.not_eq_false, ne_eq, Int.not_lt, Int.not_le, Bool.and_eq_true, Bool.or_eq_true, Bool.or_eq_false_iff, Bool.and_eq_false_imp, strOf_toList, Decidable.not_not] at h3)
      · skip
        have e1 : openL key nonce aad cipher tag = [] := by simp [openL, show ¬ tag ≤ (cipher.length : Int) by omega]
        have e2 : openE key nonce aad cipher tag = 2 := by simp [openE, h, hb, show ¬ tag ≤ (cipher.length : Int) by omega]
        rw [e1, e2]
        refine AW.seq ?_
        refine AW.region ?_
        refine AO.op (O.assign rfl rfl) rfl rfl rfl ?_
        refine AO.op (O.assign rfl rfl) rfl rfl rfl ?_
        refine AO.nil ?_
        refine AQ.thenN ?_
        refine AW.ret ?_
        refine AQ.blockR ?_
        refine AQ.thenR ?_
        refine FnQ.coe (AQ.ret2 rfl rfl rfl ⟨_, List.nil_sublist _, .nil⟩ ⟨rfl, rfl⟩) (Coe.tup (by (repeat (first | exact CoeL.nil | refine CoeL.cons Coe.rfl ?_ | refine CoeL.cons Coe.nil ?_)); done)) (⟨rfl, rfl⟩)
      · skip
        have h3' : tag ≤ (cipher.length : Int) := by omega
        obtain ⟨T, hT⟩ : ∃ T : Nat, tag = (T : Int) := ⟨tag.toNat, by omega⟩
        obtain ⟨n, hn⟩ : ∃ n : Nat, n = cipher.length - T := ⟨_, rfl⟩
        have hl : cipher.length = n + T := by omega
        have hT16 : T ≤ 16 := by omega
        have hn' : (cipher.length : Int) - tag = (n : Int) := by omega
        have hct : (cipher.take n).length = n := by rw [List.length_take]; omega
        have hopt : openT key nonce cipher tag = fnB n (strF (wK key) nonce (cipher.take n)) := by rw [openT, hT, show cipher.length - (T : Int).toNat = n by omega]
        have heq := open_eq (aad := aad) h hT hl (by omega) (by omega)
        obtain ⟨PT, hPT⟩ : ∃ PT, PT = openT key nonce cipher tag := ⟨_, rfl⟩
        have hPl : PT.length = n := by rw [hPT, hopt, fnB_len]
        have eP : arB (cipher.take n).length (strF (wS (kf key)) nonce (cipher.take n)) = bytesA PT := by rw [hPT, hopt, hct]; rfl
        refine AW.g ?_
        refine G.re 0 (.ro false 16 (arB 16 (kf key))) (congrArg some (roB_kf hk)) ?_
        refine AW.u ?_
        have hst := stream_fn (wS (kf key)) nonce (cipher.take n) (gotF cipher n T) hn13 (by omega)
        have eL : (cipher.take n).length = PT.length := by rw [hct, hPl]
        rw [eP, eL] at hst
        have hq := equal7_fn (fnB T (tagF (wS (kf key)) nonce (gotF cipher n T))) (fnB T (macF (wS (kf key)) nonce aad PT tag))
        rw [roB_fnB, roB_fnB] at hq
        refine AW.skip ?_
        refine AQ.blockN ?_
        refine AQ.thenN ?_
        refine AW.seq ?_
        refine AW.region ?_
        refine AO.op (O.move rfl rfl) rfl rfl rfl ?_
        refine AO.op (O.lenR rfl rfl) rfl rfl rfl ?_
        refine AO.op (O.move rfl rfl) rfl rfl rfl ?_
        refine AO.op (O.sub rfl rfl rfl (by exact wI64 (by omega))) rfl rfl rfl ?_
        refine AO.op (O.assign rfl rfl) rfl rfl rfl ?_
        refine AO.nil ?_
        refine AQ.thenN ?_
        refine AW.seq ?_
        refine AW.region ?_
        refine AO.op (O.move rfl rfl) rfl rfl rfl ?_
        refine AO.opB (O.call rfl Try.func40 rfl rfl rfl (aesnew_fn _)) rfl rfl rfl ?_
        intro B1
        refine AO.op (O.assign rfl rfl) rfl rfl rfl ?_
        refine AO.g ?_
        refine G.freezePtr 0 13 rfl rfl ?_
        refine AO.u ?_
        dsimp only [List.eraseIdx]
        refine AO.nil ?_
        refine AQ.thenN ?_
        refine AW.seq ?_
        refine AW.region ?_
        (refine AO.opB (O.alloc rfl (by (dsimp only [List.set, List.append, List.cons_append, List.nil_append, roB_cells, roI_cells, roO_cells, splice, ofConst, AV.cells, List.map, List.map_cons, List.map_nil, List.take, List.drop, Nat.zero_add, Nat.add_zero, Nat.reduceAdd, Nat.reduceMul, Nat.zero_mul, Value.cells, List.toList_toArray, zerosA, List.replicate, List.flatten, List.append_nil]; done)) (by rfl)) rfl rfl rfl ?_)
        intro B2
        refine AO.nil ?_
        refine AQ.thenN ?_
        refine AW.seq ?_
        refine AW.regionD 4 (by kernel_rfl) (by kernel_rfl) ?_
        simp only [List.take_succ_cons, List.take_zero, List.drop_succ_cons, List.drop_zero]
        refine FA.op (O.sliceArrK (p := 0) rfl rfl rfl rfl (by rfl) (by rfl) ⟨by omega, by omega⟩ (by omega)) rfl rfl rfl rfl ?_
        refine FA.op (O.move rfl rfl) rfl rfl rfl rfl ?_
        refine FA.op (O.move rfl rfl) rfl rfl rfl rfl ?_
        refine FA.op (O.sliceFromB (k := n) rfl rfl rfl (by omega) (by omega)) rfl rfl rfl rfl ?_
        refine FA.nil ?_
        simp only [chosen, List.nil_append, List.cons_append, List.append_nil]
        (refine AO.copyIn (i := 0) rfl rfl rfl rfl (by exact bytesA_length _) (by exact bytesA_one _) rfl (by show 0 + 0 * 1 + min (cipher.drop n).length (16 - 0) ≤ 16; omega) (by exact copyTag hl hT16) rfl rfl (fun q h => by cases h; exact Nat.le_of_ble_eq_true rfl) ?_)
        rintro _ rfl
        dsimp only [List.set]
        refine AO.nil ?_
        refine AQ.thenN ?_
        refine AW.seq ?_
        refine AW.regionA _ (Al.mk' (i := 10) (d := 16) (T := 55) _ rfl rfl rfl rfl rfl (by (dsimp only [List.set, List.append, List.cons_append, List.nil_append, roB_cells, roI_cells, roO_cells, splice, ofConst, AV.cells, List.map, List.map_cons, List.map_nil, List.take, List.drop, Nat.zero_add, Nat.add_zero, Nat.reduceAdd, Nat.reduceMul, Nat.zero_mul, Value.cells, List.toList_toArray, zerosA, List.replicate, List.flatten, List.append_nil]; done)) (by rfl)) [(0, false), (1, false), (2, false), (3, false), (4, false), (5, false), (6, true), (7, false), (8, false), (9, false), (10, true), (11, false), (12, true)] (by kernel_rfl) (by kernel_rfl) (by exact splitNil) ?_
        dsimp only [List.eraseIdx]
        refine AN.op rfl (O.move rfl rfl) rfl rfl rfl ?_
        refine AN.op rfl (O.move rfl rfl) rfl rfl rfl ?_
        refine AN.op rfl (O.move rfl rfl) rfl rfl rfl ?_
        refine AN.op rfl (O.move rfl rfl) rfl rfl rfl ?_
        refine AN.op rfl (O.sliceToB (k := n) rfl rfl rfl (by omega) (by omega)) rfl rfl rfl ?_
        refine AN.op rfl (O.loadK rfl rfl (by repeat (exact List.Mem.head _)) (by exact arFull _) (by exact arB_len _ _)) rfl rfl rfl ?_
        refine AN.main _ rfl rfl (fun w0 R0 => ?_)
        refine AO.opN (O.call rfl Try.func47 rfl rfl rfl (hst)) rfl rfl rfl ?_
        rintro _ _ ⟨V443, hV443, rfl, rfl⟩
        simp only [List.cons_append, List.nil_append]
        refine AM.ok ?_
        dsimp only [putE]
        refine AN.op rfl (O.move rfl rfl) rfl rfl rfl ?_
        refine AN.op rfl (O.extract rfl rfl rfl) rfl rfl rfl ?_
        refine AN.op rfl (O.extract rfl rfl rfl) rfl rfl rfl ?_
        refine AN.box rfl ?_
        intro B4
        dsimp only [Al.he]
        refine AN.op rfl (O.assign rfl rfl) rfl rfl rfl ?_
        refine AN.main _ rfl rfl (fun w0 R0 => ?_)
        (refine AO.store (i := 0) rfl rfl rfl rfl rfl rfl (by exact arB_one _ _) (by exact arB_len _ _) (by rfl) (by exact splice_arB rfl) (by (dsimp only [List.set, List.append, List.cons_append, List.nil_append, roB_cells, roI_cells, roO_cells, splice, ofConst, AV.cells, List.map, List.map_cons, List.map_nil, List.take, List.drop, Nat.zero_add, Nat.add_zero, Nat.reduceAdd, Nat.reduceMul, Nat.zero_mul, Value.cells, List.toList_toArray, zerosA, List.replicate, List.flatten, List.append_nil]; done)) ?_)
        refine AM.okN ?_
        dsimp only [putE]
        refine AN.nil ?_
        dsimp only [List.cons_append, List.nil_append]
        refine AQ.thenN ?_
        refine AW.seq ?_
        refine AW.region ?_
        refine AO.op (O.move rfl rfl) rfl rfl rfl ?_
        refine AO.g ?_
        refine G.freezePtr 0 16 rfl rfl ?_
        refine AO.u ?_
        dsimp only [List.eraseIdx]
        refine AO.op (O.move rfl rfl) rfl rfl rfl ?_
        refine AO.op (O.move rfl rfl) rfl rfl rfl ?_
        refine AO.op (O.move rfl rfl) rfl rfl rfl ?_
        refine AO.op (O.move rfl rfl) rfl rfl rfl ?_
        refine AO.opN (O.callLP rfl Try.func48 rfl rfl rfl (by repeat (exact List.Mem.head _)) (auth_fn (wS (kf key)) nonce aad PT tag hn13 ⟨ht4, ht16⟩ (by omega) (by omega)) (aggPlain _ _) (by (repeat (first | exact LendL.nil | refine LendL.same ?_ | refine LendL.lend ?_)); done)) rfl rfl rfl ?_
        rintro _ _ ⟨rfl, rfl⟩
        simp only [List.cons_append, List.nil_append]
        (refine AO.opB (O.alloc rfl (by (dsimp only [List.set, List.append, List.cons_append, List.nil_append, roB_cells, roI_cells, roO_cells, splice, ofConst, AV.cells, List.map, List.map_cons, List.map_nil, List.take, List.drop, Nat.zero_add, Nat.add_zero, Nat.reduceAdd, Nat.reduceMul, Nat.zero_mul, Value.cells, List.toList_toArray, zerosA, List.replicate, List.flatten, List.append_nil]; done)) (by rfl)) rfl rfl rfl ?_)
        intro B6
        (refine AO.store (i := 0) rfl rfl rfl rfl rfl rfl (by exact arB_one _ _) (by exact arB_len _ _) (by rfl) (by exact splice_arB rfl) (by (dsimp only [List.set, List.append, List.cons_append, List.nil_append, roB_cells, roI_cells, roO_cells, splice, ofConst, AV.cells, List.map, List.map_cons, List.map_nil, List.take, List.drop, Nat.zero_add, Nat.add_zero, Nat.reduceAdd, Nat.reduceMul, Nat.zero_mul, Value.cells, List.toList_toArray, zerosA, List.replicate, List.flatten, List.append_nil]; done)) ?_)
        refine AO.g ?_
        refine G.freezePtr 0 17 rfl rfl ?_
        refine AO.u ?_
        dsimp only [List.eraseIdx]
        refine AO.nil ?_
        refine AQ.thenN ?_
        refine AW.seq ?_
        refine AW.seq ?_
        refine AW.regionD 6 (by kernel_rfl) (by kernel_rfl) ?_
        simp only [List.take_succ_cons, List.take_zero, List.drop_succ_cons, List.drop_zero]
        refine FA.op (O.move rfl rfl) rfl rfl rfl rfl ?_
        (refine FA.op (O.sliceArrRK (p := 0) (q := T) rfl rfl rfl rfl (by rfl) (by omega) ⟨by omega, by omega⟩ (by omega) (by (unfold maxLen; omega)) (by exact arPre (by omega) _)) rfl rfl rfl rfl ?_)
        refine FA.op (O.move rfl rfl) rfl rfl rfl rfl ?_
        (refine FA.op (O.sliceArrRK (p := 0) (q := T) rfl rfl rfl rfl (by rfl) (by omega) ⟨by omega, by omega⟩ (by omega) (by (unfold maxLen; omega)) (by exact arPre (by omega) _)) rfl rfl rfl rfl ?_)
        refine FA.op (O.call rfl Try.func51 rfl rfl rfl (hq)) rfl rfl rfl rfl ?_
        refine FA.op (O.not rfl rfl (by rfl)) rfl rfl rfl rfl ?_
        refine FA.nil ?_
        simp only [chosen, List.nil_append, List.cons_append, List.append_nil]
        refine AO.nil ?_
        refine AQ.thenN ?_
        rw [← hPT] at heq
        refine AW.split rfl (fun h72 => ?_) (fun h72 => ?_) <;> (try simp only [decide_eq_true_eq, decide_eq_false_iff_not, beq_iff_eq, beq_eq_false_iff_ne, bne_iff_ne, bne_eq_false_iff_eq, Bool.not_eq_true', Bool.not_eq_false', Bool.not_eq_true, Bool.not_eq_false, ne_eq, Int.not_lt, Int.not_le, Bool.and_eq_true, Bool.or_eq_true, Bool.or_eq_false_iff, Bool.and_eq_false_imp, strOf_toList, Decidable.not_not] at h72)
        · skip
          have hB : openB key nonce aad cipher tag = false := by rw [heq]; simpa using h72
          have e1 : openL key nonce aad cipher tag = [] := by simp [openL, hB]
          have e2 : openE key nonce aad cipher tag = 11 := by simp [openE, h, hb, h3', hB]
          rw [e1, e2]
          refine AW.seq ?_
          refine AW.region ?_
          refine AO.op (O.assign rfl rfl) rfl rfl rfl ?_
          refine AO.op (O.assign rfl rfl) rfl rfl rfl ?_
          refine AO.nil ?_
          refine AQ.thenN ?_
          refine AW.ret ?_
          refine AQ.thenR ?_
          refine FnQ.coe (AQ.ret2 rfl rfl rfl ⟨_, List.nil_sublist _, .nil⟩ ⟨rfl, rfl⟩) (Coe.tup (by (repeat (first | exact CoeL.nil | refine CoeL.cons Coe.rfl ?_ | refine CoeL.cons Coe.nil ?_)); done)) (⟨rfl, rfl⟩)
        · skip
          have hB : openB key nonce aad cipher tag = true := by rw [heq]; simpa using h72
          have e1 : openL key nonce aad cipher tag = PT := by simp [openL, h, hb, h3', hB, hPT]
          have e2 : openE key nonce aad cipher tag = 0 := by simp [openE, h, hb, h3', hB]
          rw [e1, e2]
          refine AW.skip ?_
          refine AQ.thenN ?_
          refine AW.seq ?_
          refine AW.region ?_
          refine AO.op (O.move rfl rfl) rfl rfl rfl ?_
          refine AO.op (O.assign rfl rfl) rfl rfl rfl ?_
          refine AO.op (O.assign rfl rfl) rfl rfl rfl ?_
          refine AO.nil ?_
          refine AQ.thenN ?_
          refine AW.ret ?_
          refine AQ.g ?_
          refine G.freezeRow 0 rfl [10] (by repeat (first | exact frNil | refine frCons rfl ?_)) ?_
          refine AQ.u ?_
          try dsimp only [List.map, List.eraseIdx, List.cons_append, List.nil_append]
          refine FnQ.coe (AQ.ret2 rfl rfl rfl ⟨_, List.nil_sublist _, .nil⟩ ⟨rfl, rfl⟩) (Coe.tup (by (repeat (first | exact CoeL.nil | refine CoeL.cons Coe.rfl ?_)); done)) (⟨rfl, rfl⟩)
end Go.Proofs.Ytochjihddnkhcaa.By

namespace Go.Proofs.Ytochjihddnkhcaa.By
open Go.RowKit L A
set_option linter.unusedVariables false
set_option linter.unusedSimpArgs false
attribute [local irreducible] AW AQ AO
attribute [local simp] arB_len
theorem seal_le (key nonce aad plain : List UInt8) (tag : Int) (hp : plain.length ≤ 100000) : (sealL key nonce aad plain tag).length ≤ 1000000 := by
  unfold sealL
  split
  · rename_i h
    rw [Bool.and_eq_true] at h
    obtain ⟨_, _, _, _, _, _⟩ := cvB_bd h.1
    rw [List.length_append, fnB_len, fnB_len]; omega
  · simp
theorem seal_inj {key nonce aad p q : List UInt8} {tag : Int} (hcv : cvB key nonce tag = true) (ha : aad.length ≤ 4096) (hp : p.length ≤ 4096) (hq : q.length ≤ 4096) : (sealL key nonce aad p tag = sealL key nonce aad q tag) = (p = q) := by
  apply propext
  constructor
  · intro h
    rw [← (open_seal hcv ha hp).1, h, (open_seal hcv ha hq).1]
  · intro h; rw [h]
set_option maxHeartbeats 4000000 in
theorem lawBack7_fn (aad plain other : List UInt8) (n : Int) : Sp Try.prog 12 [roB aad, roB plain, roB other, .val (.int .i64 n)] [] (Is (.val (.bool true))) := by
  refine Sp.enter Try.func12 rfl _ Try.ntmps12 rfl (fun w0 R0 => ?_)
  refine AW.seq ?_
  refine AW.region ?_
  refine AO.op (O.assign rfl rfl) rfl rfl rfl ?_
  refine AO.nil ?_
  refine AQ.thenN ?_
  refine AW.seq ?_
  refine AW.seq ?_
  refine AW.region ?_
  refine AO.op (O.move rfl rfl) rfl rfl rfl ?_
  refine AO.op (O.call rfl Try.func21 rfl rfl rfl (short06_fn _)) rfl rfl rfl ?_
  refine AO.op (O.not rfl rfl (by rfl)) rfl rfl rfl ?_
  refine AO.op (O.move rfl rfl) rfl rfl rfl ?_
  refine AO.opG rfl rfl rfl (fun hp => O.move rfl rfl) ?_
  refine AO.opG rfl rfl rfl (fun hp => OpW.force 22 rfl (by exact hp) (O.call rfl Try.func21 rfl rfl rfl (short06_fn _))) ?_
  refine AO.opG rfl rfl rfl (fun hp => OpW.force 23 rfl (by exact hp) (O.not rfl rfl (by rfl))) ?_
  refine AO.op (O.pickOr rfl rfl rfl rfl (fun h => by exact congrArg (fun b => !b) h)) rfl rfl rfl ?_
  refine AO.op (O.move rfl rfl) rfl rfl rfl ?_
  refine AO.opG rfl rfl rfl (fun hp => O.move rfl rfl) ?_
  refine AO.opG rfl rfl rfl (fun hp => OpW.force 27 rfl (by exact hp) (O.call rfl Try.func21 rfl rfl rfl (short06_fn _))) ?_
  refine AO.opG rfl rfl rfl (fun hp => OpW.force 28 rfl (by exact hp) (O.not rfl rfl (by rfl))) ?_
  refine AO.op (O.pickOr rfl rfl rfl rfl (fun h => by exact congrArg (fun b => !b) h)) rfl rfl rfl ?_
  refine AO.nil ?_
  refine AQ.thenN ?_
  refine AW.split rfl (fun h => ?_) (fun h => ?_) <;> (try simp only [decide_eq_true_eq, decide_eq_false_iff_not, beq_iff_eq, beq_eq_false_iff_ne, bne_iff_ne, bne_eq_false_iff_eq, Bool.not_eq_true', Bool.not_eq_false', Bool.not_eq_true, Bool.not_eq_false, ne_eq, Int.not_lt, Int.not_le, Bool.and_eq_true, Bool.or_eq_true, Bool.or_eq_false_iff, Bool.and_eq_false_imp, strOf_toList, Decidable.not_not] at h)
  · skip
    refine AW.seq ?_
    refine AW.region ?_
    refine AO.op (O.call rfl Try.func30 rfl rfl rfl (awake07_fn)) rfl rfl rfl ?_
    refine AO.op (O.assign rfl rfl) rfl rfl rfl ?_
    refine AO.nil ?_
    refine AQ.thenN ?_
    refine AW.ret ?_
    refine AQ.thenR ?_
    refine AQ.ret1 rfl rfl ⟨_, List.nil_sublist _, .nil⟩ (⟨rfl, rfl⟩)
  · skip
    refine AW.skip ?_
    refine AQ.thenN ?_
    refine AW.seq ?_
    refine AW.region ?_
    refine AO.op (O.move rfl rfl) rfl rfl rfl ?_
    refine AO.opN (O.call rfl Try.func25 rfl rfl rfl (params_fn _)) rfl rfl rfl ?_
    rintro _ _ ⟨⟨K1, N1, t1, rfl, hcv1⟩, rfl⟩
    simp only [List.cons_append, List.nil_append]
    refine AO.op (O.move rfl rfl) rfl rfl rfl ?_
    refine AO.op (O.extract rfl rfl rfl) rfl rfl rfl ?_
    refine AO.op (O.extract rfl rfl rfl) rfl rfl rfl ?_
    refine AO.op (O.extract rfl rfl rfl) rfl rfl rfl ?_
    refine AO.op (O.assign rfl rfl) rfl rfl rfl ?_
    refine AO.op (O.assign rfl rfl) rfl rfl rfl ?_
    refine AO.op (O.assign rfl rfl) rfl rfl rfl ?_
    refine AO.nil ?_
    refine AQ.thenN ?_
    refine AW.seq ?_
    refine AW.region ?_
    refine AO.op (O.move rfl rfl) rfl rfl rfl ?_
    refine AO.op (O.move rfl rfl) rfl rfl rfl ?_
    refine AO.op (O.move rfl rfl) rfl rfl rfl ?_
    refine AO.op (O.move rfl rfl) rfl rfl rfl ?_
    refine AO.op (O.move rfl rfl) rfl rfl rfl ?_
    refine AO.op (O.call rfl Try.func31 rfl rfl rfl (seal_fn _ _ _ _ _ (by omega) (by omega))) rfl rfl rfl ?_
    refine AO.op (O.move rfl rfl) rfl rfl rfl ?_
    refine AO.op (O.extract rfl rfl rfl) rfl rfl rfl ?_
    refine AO.op (O.extract rfl rfl rfl) rfl rfl rfl ?_
    refine AO.op (O.assign rfl rfl) rfl rfl rfl ?_
    refine AO.op (O.assign rfl rfl) rfl rfl rfl ?_
    refine AO.nil ?_
    refine AQ.thenN ?_
    refine AW.seq ?_
    refine AW.region ?_
    refine AO.op (O.move rfl rfl) rfl rfl rfl ?_
    refine AO.op (O.move rfl rfl) rfl rfl rfl ?_
    refine AO.op (O.move rfl rfl) rfl rfl rfl ?_
    refine AO.op (O.move rfl rfl) rfl rfl rfl ?_
    refine AO.op (O.move rfl rfl) rfl rfl rfl ?_
    refine AO.op (O.call rfl Try.func31 rfl rfl rfl (seal_fn _ _ _ _ _ (by omega) (by omega))) rfl rfl rfl ?_
    refine AO.op (O.move rfl rfl) rfl rfl rfl ?_
    refine AO.op (O.extract rfl rfl rfl) rfl rfl rfl ?_
    refine AO.op (O.extract rfl rfl rfl) rfl rfl rfl ?_
    refine AO.op (O.assign rfl rfl) rfl rfl rfl ?_
    refine AO.op (O.assign rfl rfl) rfl rfl rfl ?_
    refine AO.nil ?_
    refine AQ.thenN ?_
    refine AW.seq ?_
    refine AW.region ?_
    refine AO.op (O.move rfl rfl) rfl rfl rfl ?_
    refine AO.op (O.move rfl rfl) rfl rfl rfl ?_
    refine AO.op (O.move rfl rfl) rfl rfl rfl ?_
    refine AO.op (O.move rfl rfl) rfl rfl rfl ?_
    refine AO.op (O.move rfl rfl) rfl rfl rfl ?_
    refine AO.op (O.call rfl Try.func34 rfl rfl rfl (open_fn _ _ _ _ _ (by omega) (seal_le _ _ _ _ _ (by omega)))) rfl rfl rfl ?_
    refine AO.op (O.move rfl rfl) rfl rfl rfl ?_
    refine AO.op (O.extract rfl rfl rfl) rfl rfl rfl ?_
    refine AO.op (O.extract rfl rfl rfl) rfl rfl rfl ?_
    refine AO.op (O.assign rfl rfl) rfl rfl rfl ?_
    refine AO.op (O.assign rfl rfl) rfl rfl rfl ?_
    refine AO.nil ?_
    refine AQ.thenN ?_
    refine AW.seq ?_
    refine AW.region ?_
    refine AO.op (O.move rfl rfl) rfl rfl rfl ?_
    refine AO.op (O.eql rfl rfl rfl (by rfl)) rfl rfl rfl ?_
    refine AO.op (O.move rfl rfl) rfl rfl rfl ?_
    refine AO.opG rfl rfl rfl (fun hp => O.move rfl rfl) ?_
    refine AO.opG rfl rfl rfl (fun hp => OpW.force 68 rfl (by exact hp) (O.eql rfl rfl rfl (by rfl))) ?_
    refine AO.op (O.pickAnd rfl rfl rfl rfl (fun h => by exact h)) rfl rfl rfl ?_
    refine AO.op (O.move rfl rfl) rfl rfl rfl ?_
    refine AO.opG rfl rfl rfl (fun hp => O.move rfl rfl) ?_
    refine AO.opG rfl rfl rfl (fun hp => OpW.force 72 rfl (by exact hp) (O.eql rfl rfl rfl (by rfl))) ?_
    refine AO.op (O.pickAnd rfl rfl rfl rfl (fun h => by exact h)) rfl rfl rfl ?_
    refine AO.op (O.move rfl rfl) rfl rfl rfl ?_
    refine AO.opG rfl rfl rfl (fun hp => O.move rfl rfl) ?_
    refine AO.opG rfl rfl rfl (fun hp => OpW.force 76 rfl (by exact hp) (O.lenR rfl rfl)) ?_
    refine AO.opG rfl rfl rfl (fun hp => O.move rfl rfl) ?_
    refine AO.opG rfl rfl rfl (fun hp => OpW.force 78 rfl (by exact hp) (O.lenR rfl rfl)) ?_
    refine AO.opG rfl rfl rfl (fun hp => O.move rfl rfl) ?_
    refine AO.opG rfl rfl rfl (fun hp => OpW.force 79 rfl (by exact hp) (OpW.force 80 rfl (by exact hp) (O.add rfl rfl rfl (by rfl)))) ?_
    refine AO.opG rfl rfl rfl (fun hp => OpW.force 77 rfl (by exact hp) (OpW.force 81 rfl (by exact hp) (O.eql rfl rfl rfl (by rfl)))) ?_
    refine AO.op (O.pickAnd rfl rfl rfl rfl (fun h => by exact h)) rfl rfl rfl ?_
    refine AO.op (O.move rfl rfl) rfl rfl rfl ?_
    refine AO.opG rfl rfl rfl (fun hp => O.move rfl rfl) ?_
    refine AO.opG rfl rfl rfl (fun hp => OpW.force 85 rfl (by exact hp) (O.convS rfl rfl (by rfl))) ?_
    refine AO.opG rfl rfl rfl (fun hp => O.move rfl rfl) ?_
    refine AO.opG rfl rfl rfl (fun hp => OpW.force 87 rfl (by exact hp) (O.convS rfl rfl (by rfl))) ?_
    refine AO.opG rfl rfl rfl (fun hp => OpW.force 86 rfl (by exact hp) (OpW.force 88 rfl (by exact hp) (O.eqlS rfl rfl rfl (by rfl)))) ?_
    refine AO.op (O.pickAnd rfl rfl rfl rfl (fun h => by exact h)) rfl rfl rfl ?_
    refine AO.op (O.move rfl rfl) rfl rfl rfl ?_
    refine AO.opG rfl rfl rfl (fun hp => O.move rfl rfl) ?_
    refine AO.opG rfl rfl rfl (fun hp => OpW.force 92 rfl (by exact hp) (O.convS rfl rfl (by rfl))) ?_
    refine AO.opG rfl rfl rfl (fun hp => O.move rfl rfl) ?_
    refine AO.opG rfl rfl rfl (fun hp => OpW.force 94 rfl (by exact hp) (O.convS rfl rfl (by rfl))) ?_
    refine AO.opG rfl rfl rfl (fun hp => OpW.force 93 rfl (by exact hp) (OpW.force 95 rfl (by exact hp) (O.eqlS rfl rfl rfl (by rfl)))) ?_
    refine AO.opG rfl rfl rfl (fun hp => O.move rfl rfl) ?_
    refine AO.opG rfl rfl rfl (fun hp => OpW.force 97 rfl (by exact hp) (O.convS rfl rfl (by rfl))) ?_
    refine AO.opG rfl rfl rfl (fun hp => O.move rfl rfl) ?_
    refine AO.opG rfl rfl rfl (fun hp => OpW.force 99 rfl (by exact hp) (O.convS rfl rfl (by rfl))) ?_
    refine AO.opG rfl rfl rfl (fun hp => OpW.force 98 rfl (by exact hp) (OpW.force 100 rfl (by exact hp) (O.eqlS rfl rfl rfl (by rfl)))) ?_
    refine AO.opG rfl rfl rfl (fun hp => OpW.force 96 rfl (by exact hp) (OpW.force 101 rfl (by exact hp) (O.eqlB rfl rfl rfl (by rfl)))) ?_
    refine AO.op (O.pickAnd rfl rfl rfl rfl (fun h => by exact h)) rfl rfl rfl ?_
    refine AO.op (O.move rfl rfl) rfl rfl rfl ?_
    refine AO.opG rfl rfl rfl (fun hp => O.call rfl Try.func30 rfl rfl rfl (awake07_fn)) ?_
    refine AO.op (O.pickAnd rfl rfl rfl rfl (fun h => by exact h)) rfl rfl rfl ?_
    refine AO.op (O.assign rfl rfl) rfl rfl rfl ?_
    refine AO.nil ?_
    refine AQ.thenN ?_
    refine AW.ret ?_
    obtain ⟨a1, a2, _⟩ := seal_str (aad := aad) (plain := plain) hcv1 (by omega) (by omega)
    obtain ⟨b1, _, _⟩ := seal_str (aad := aad) (plain := other) hcv1 (by omega) (by omega)
    obtain ⟨o1, o2⟩ := open_seal (aad := aad) (plain := plain) hcv1 (by omega) (by omega)
    obtain ⟨_, _, _, ht4, ht16, _⟩ := cvB_bd hcv1
    have hij := seal_inj (aad := aad) (p := plain) (q := other) hcv1 (by omega) (by omega) (by omega)
    have hw64 : IntKind.i64.wrap ((plain.length : Int) + t1) = (plain.length : Int) + t1 := by
      rw [IntKind.wrap_i64]; omega
    have hij2 : (sealL K1 N1 aad plain t1 == sealL K1 N1 aad other t1) = (plain == other) := by rw [Bool.eq_iff_iff, beq_iff_eq, beq_iff_eq, hij]
    rw [a1, b1, o1, o2]
    refine AQ.g ?_
    refine G.re 8 (.val (.bool true)) (congrArg some (by simp [a2, hw64, strOf_toList, hij2])) ?_
    refine AQ.u ?_
    refine AQ.ret1 rfl rfl ⟨_, List.nil_sublist _, .nil⟩ (⟨rfl, rfl⟩)
set_option maxHeartbeats 4000000 in
theorem lawRefuses_fn (aad cipher : List UInt8) (n : Int) : Sp Try.prog 13 [roB aad, roB cipher, .val (.int .i64 n)] [] (Is (.val (.bool true))) := by
  refine Sp.enter Try.func13 rfl _ Try.ntmps13 rfl (fun w0 R0 => ?_)
  refine AW.seq ?_
  refine AW.region ?_
  refine AO.op (O.assign rfl rfl) rfl rfl rfl ?_
  refine AO.nil ?_
  refine AQ.thenN ?_
  refine AW.seq ?_
  refine AW.seq ?_
  refine AW.region ?_
  refine AO.op (O.move rfl rfl) rfl rfl rfl ?_
  refine AO.op (O.call rfl Try.func21 rfl rfl rfl (short06_fn _)) rfl rfl rfl ?_
  refine AO.op (O.not rfl rfl (by rfl)) rfl rfl rfl ?_
  refine AO.op (O.move rfl rfl) rfl rfl rfl ?_
  refine AO.opG rfl rfl rfl (fun hp => O.move rfl rfl) ?_
  refine AO.opG rfl rfl rfl (fun hp => OpW.force 18 rfl (by exact hp) (O.call rfl Try.func21 rfl rfl rfl (short06_fn _))) ?_
  refine AO.opG rfl rfl rfl (fun hp => OpW.force 19 rfl (by exact hp) (O.not rfl rfl (by rfl))) ?_
  refine AO.op (O.pickOr rfl rfl rfl rfl (fun h => by exact congrArg (fun b => !b) h)) rfl rfl rfl ?_
  refine AO.nil ?_
  refine AQ.thenN ?_
  refine AW.split rfl (fun h => ?_) (fun h => ?_) <;> (try simp only [decide_eq_true_eq, decide_eq_false_iff_not, beq_iff_eq, beq_eq_false_iff_ne, bne_iff_ne, bne_eq_false_iff_eq, Bool.not_eq_true', Bool.not_eq_false', Bool.not_eq_true, Bool.not_eq_false, ne_eq, Int.not_lt, Int.not_le, Bool.and_eq_true, Bool.or_eq_true, Bool.or_eq_false_iff, Bool.and_eq_false_imp, strOf_toList, Decidable.not_not] at h)
  · skip
    refine AW.seq ?_
    refine AW.region ?_
    refine AO.op (O.call rfl Try.func30 rfl rfl rfl (awake07_fn)) rfl rfl rfl ?_
    refine AO.op (O.assign rfl rfl) rfl rfl rfl ?_
    refine AO.nil ?_
    refine AQ.thenN ?_
    refine AW.ret ?_
    refine AQ.thenR ?_
    refine AQ.ret1 rfl rfl ⟨_, List.nil_sublist _, .nil⟩ (⟨rfl, rfl⟩)
  · skip
    have hol : ∀ K N t, (openL K N aad cipher t).length ≤ 1000 := fun K N t => by
      unfold openL; split
      · rw [openT, fnB_len]; omega
      · simp
    refine AW.skip ?_
    refine AQ.thenN ?_
    refine AW.seq ?_
    refine AW.region ?_
    refine AO.op (O.move rfl rfl) rfl rfl rfl ?_
    refine AO.opN (O.call rfl Try.func25 rfl rfl rfl (params_fn _)) rfl rfl rfl ?_
    rintro _ _ ⟨⟨K1, N1, t1, rfl, hcv1⟩, rfl⟩
    simp only [List.cons_append, List.nil_append]
    refine AO.op (O.move rfl rfl) rfl rfl rfl ?_
    refine AO.op (O.extract rfl rfl rfl) rfl rfl rfl ?_
    refine AO.op (O.extract rfl rfl rfl) rfl rfl rfl ?_
    refine AO.op (O.extract rfl rfl rfl) rfl rfl rfl ?_
    refine AO.op (O.assign rfl rfl) rfl rfl rfl ?_
    refine AO.op (O.assign rfl rfl) rfl rfl rfl ?_
    refine AO.op (O.assign rfl rfl) rfl rfl rfl ?_
    refine AO.nil ?_
    refine AQ.thenN ?_
    refine AW.seq ?_
    refine AW.region ?_
    refine AO.op (O.move rfl rfl) rfl rfl rfl ?_
    refine AO.op (O.move rfl rfl) rfl rfl rfl ?_
    refine AO.op (O.move rfl rfl) rfl rfl rfl ?_
    refine AO.op (O.move rfl rfl) rfl rfl rfl ?_
    refine AO.op (O.move rfl rfl) rfl rfl rfl ?_
    refine AO.op (O.call rfl Try.func34 rfl rfl rfl (open_fn _ _ _ _ _ (by omega) (by omega))) rfl rfl rfl ?_
    refine AO.op (O.move rfl rfl) rfl rfl rfl ?_
    refine AO.op (O.extract rfl rfl rfl) rfl rfl rfl ?_
    refine AO.op (O.extract rfl rfl rfl) rfl rfl rfl ?_
    refine AO.op (O.assign rfl rfl) rfl rfl rfl ?_
    refine AO.op (O.assign rfl rfl) rfl rfl rfl ?_
    refine AO.nil ?_
    refine AQ.thenN ?_
    refine AW.seq ?_
    refine AW.seq ?_
    refine AW.region ?_
    refine AO.op (O.move rfl rfl) rfl rfl rfl ?_
    refine AO.op (O.neq rfl rfl rfl (by rfl)) rfl rfl rfl ?_
    refine AO.nil ?_
    refine AQ.thenN ?_
    refine AW.split rfl (fun h39 => ?_) (fun h39 => ?_) <;> (try simp only [decide_eq_true_eq, decide_eq_false_iff_not, beq_iff_eq, beq_eq_false_iff_ne, bne_iff_ne, bne_eq_false_iff_eq, Bool.not_eq_true', Bool.not_eq_false', Bool.not_eq_true, Bool.not_eq_false, ne_eq, Int.not_lt, Int.not_le, Bool.and_eq_true, Bool.or_eq_true, Bool.or_eq_false_iff, Bool.and_eq_false_imp, strOf_toList, Decidable.not_not] at h39)
    · skip
      obtain ⟨_, _, _, ht4, ht16, _⟩ := cvB_bd hcv1
      have hok : openOk aad cipher t1 = true := by
        simp only [openOk, Bool.and_eq_true, decide_eq_true_eq]; omega
      have hE : (openE K1 N1 aad cipher t1 = 2 ∧ (cipher.length : Int) < t1) ∨ (openE K1 N1 aad cipher t1 = 11 ∧ ¬ (cipher.length : Int) < t1) := by
        rw [openE, if_pos hcv1, if_pos hok] at h39 ⊢
        by_cases h3 : t1 ≤ (cipher.length : Int)
        · rw [if_pos h3] at h39 ⊢
          by_cases h4 : openB K1 N1 aad cipher t1 = true
          · rw [if_pos h4] at h39; exact absurd rfl h39
          · rw [if_neg h4]; exact .inr ⟨rfl, by omega⟩
        · rw [if_neg h3]; exact .inl ⟨rfl, by omega⟩
      refine AW.seq ?_
      refine AW.region ?_
      refine AO.op (O.move rfl rfl) rfl rfl rfl ?_
      refine AO.op (O.eql rfl rfl rfl (by rfl)) rfl rfl rfl ?_
      refine AO.op (O.move rfl rfl) rfl rfl rfl ?_
      refine AO.op (O.lenR rfl rfl) rfl rfl rfl ?_
      refine AO.op (O.move rfl rfl) rfl rfl rfl ?_
      refine AO.op (O.lss rfl rfl rfl (by rfl)) rfl rfl rfl ?_
      refine AO.op (O.eqlB rfl rfl rfl (by rfl)) rfl rfl rfl ?_
      refine AO.op (O.move rfl rfl) rfl rfl rfl ?_
      refine AO.opG rfl rfl rfl (fun hp => O.move rfl rfl) ?_
      refine AO.opG rfl rfl rfl (fun hp => OpW.force 48 rfl (by exact hp) (O.eql rfl rfl rfl (by rfl))) ?_
      refine AO.opG rfl rfl rfl (fun hp => OpW.force 49 rfl (by exact hp) (O.move rfl rfl)) ?_
      refine AO.opG rfl rfl rfl (fun hp => O.move rfl rfl) ?_
      refine AO.opG rfl rfl rfl (fun hp => OpW.force 51 rfl (by exact hp) (O.eql rfl rfl rfl (by rfl))) ?_
      refine AO.opG rfl rfl rfl (fun hp => OpW.force 50 rfl (by exact hp) (O.pickOr rfl rfl rfl rfl (fun h => by simp_all))) ?_
      refine AO.op (O.pickAnd rfl rfl rfl rfl (fun h => by exact h)) rfl rfl rfl ?_
      refine AO.op (O.move rfl rfl) rfl rfl rfl ?_
      refine AO.opG rfl rfl rfl (fun hp => O.call rfl Try.func30 rfl rfl rfl (awake07_fn)) ?_
      refine AO.op (O.pickAnd rfl rfl rfl rfl (fun h => by exact h)) rfl rfl rfl ?_
      refine AO.op (O.assign rfl rfl) rfl rfl rfl ?_
      refine AO.nil ?_
      refine AQ.thenN ?_
      refine AW.ret ?_
      refine AQ.thenR ?_
      rcases hE with ⟨e1, e2⟩ | ⟨e1, e2⟩
      · refine AQ.g ?_
        refine G.re 6 (.val (.bool true)) (congrArg some (by simp [e1, e2])) ?_
        refine AQ.u ?_
        refine AQ.ret1 rfl rfl ⟨_, List.nil_sublist _, .nil⟩ (⟨rfl, rfl⟩)
      · refine AQ.g ?_
        refine G.re 6 (.val (.bool true)) (congrArg some (by simp [e1, e2])) ?_
        refine AQ.u ?_
        refine AQ.ret1 rfl rfl ⟨_, List.nil_sublist _, .nil⟩ (⟨rfl, rfl⟩)
    · skip
      obtain ⟨e1, e2⟩ := seal_open h39
      refine AW.skip ?_
      refine AQ.thenN ?_
      refine AW.seq ?_
      refine AW.region ?_
      refine AO.op (O.move rfl rfl) rfl rfl rfl ?_
      refine AO.op (O.move rfl rfl) rfl rfl rfl ?_
      refine AO.op (O.move rfl rfl) rfl rfl rfl ?_
      refine AO.op (O.move rfl rfl) rfl rfl rfl ?_
      refine AO.op (O.move rfl rfl) rfl rfl rfl ?_
      refine AO.op (O.call rfl Try.func31 rfl rfl rfl (seal_fn _ _ _ _ _ (by omega) (Nat.le_trans (hol _ _ _) (by decide)))) rfl rfl rfl ?_
      refine AO.op (O.move rfl rfl) rfl rfl rfl ?_
      refine AO.op (O.extract rfl rfl rfl) rfl rfl rfl ?_
      refine AO.op (O.extract rfl rfl rfl) rfl rfl rfl ?_
      refine AO.op (O.assign rfl rfl) rfl rfl rfl ?_
      refine AO.op (O.assign rfl rfl) rfl rfl rfl ?_
      refine AO.nil ?_
      refine AQ.thenN ?_
      refine AW.seq ?_
      refine AW.region ?_
      refine AO.op (O.move rfl rfl) rfl rfl rfl ?_
      refine AO.op (O.eql rfl rfl rfl (by exact beq_iff_eq.2 (by omega))) rfl rfl rfl ?_
      refine AO.op (O.move rfl rfl) rfl rfl rfl ?_
      refine AO.opG rfl rfl rfl (fun hp => O.move rfl rfl) ?_
      refine AO.opG rfl rfl rfl (fun hp => OpW.force 70 rfl (by exact hp) (O.convS rfl rfl (by rfl))) ?_
      refine AO.opG rfl rfl rfl (fun hp => O.move rfl rfl) ?_
      refine AO.opG rfl rfl rfl (fun hp => OpW.force 72 rfl (by exact hp) (O.convS rfl rfl (by rfl))) ?_
      refine AO.opG rfl rfl rfl (fun hp => OpW.force 71 rfl (by exact hp) (OpW.force 73 rfl (by exact hp) (O.eqlS rfl rfl rfl (by rfl)))) ?_
      refine AO.op (O.pickAnd rfl rfl rfl rfl (fun h => by exact h)) rfl rfl rfl ?_
      refine AO.op (O.move rfl rfl) rfl rfl rfl ?_
      refine AO.opG rfl rfl rfl (fun hp => O.call rfl Try.func30 rfl rfl rfl (awake07_fn)) ?_
      refine AO.op (O.pickAnd rfl rfl rfl rfl (fun h => by exact h)) rfl rfl rfl ?_
      refine AO.op (O.assign rfl rfl) rfl rfl rfl ?_
      refine AO.nil ?_
      refine AQ.thenN ?_
      refine AW.ret ?_
      rw [e1, e2]
      refine AQ.g ?_
      refine G.re 6 (.val (.bool true)) (congrArg some (by simp)) ?_
      refine AQ.u ?_
      refine AQ.ret1 rfl rfl ⟨_, List.nil_sublist _, .nil⟩ (⟨rfl, rfl⟩)
end Go.Proofs.Ytochjihddnkhcaa.By
