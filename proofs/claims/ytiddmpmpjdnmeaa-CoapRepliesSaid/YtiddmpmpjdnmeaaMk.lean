/-
  The deck, whatever it holds: numbers in range, some bytes; bytes that are spoilt.
-/
import Derived.Test.YtiddmpmpjdnmeaaMs
namespace Go.Proofs.Ytiddmpmpjdnmeaa.By
open Go.RowKit L A Dk
set_option linter.unusedVariables false
set_option linter.unusedSimpArgs false
attribute [local irreducible] AW AQ AO

/-- Something, and a deck of which more or fewer numbers are taken. -/
def Gen (b : Nat) (l : List Int) (Φ : AV → Prop) : AV → List HE → Prop := fun r H' => Φ r ∧ ∃ k, k ≤ l.length ∧ H' = [deck b l k]
def IsNum (n : Int) (r : AV) : Prop := ∃ z : Int, 0 ≤ z ∧ z < n ∧ r = .val (.int .i64 z)
def IsBytes (n : Nat) (r : AV) : Prop := ∃ x : List UInt8, x.length ≤ n ∧ r = roB x
def Some1 (Φ : AV → Prop) : AV → List HE → Prop := fun r H' => Φ r ∧ H' = []
theorem next_any (b : Nat) (l : List Int) (k : Nat) (n : Int) (hl : l.length ≤ maxLen) (hk : k ≤ l.length) (hn1 : 0 < n) (hn2 : n ≤ 4611686018427387904) :
    Sp Try.prog 36 [ptr b, .val (.int .i64 n)] [deck b l k] (Gen b l (IsNum n)) :=
  (next_fn b l k n hl hk hn1 hn2).mono fun r H' ⟨h1, h2⟩ => ⟨⟨_, (nxt_in l k hn1).1, (nxt_in l k hn1).2, h1⟩, _, adv_le' hk, h2⟩

set_option maxHeartbeats 1000000 in
theorem bytes_any (b : Nat) (l : List Int) (k : Nat) (n : Nat) (hl : l.length ≤ maxLen) (hk : k ≤ l.length) (hn : n ≤ 1000000) :
    Sp Try.prog 37 [ptr b, .val (.int .i64 (n : Int))] [deck b l k] (Gen b l (IsBytes n)) := by
  refine Sp.enter Try.func37 rfl _ Try.ntmps37 rfl (fun w0 R0 => ?_)
  refine AW.seq ?_
  refine AW.region ?_
  refine AO.op (O.assign rfl rfl) rfl rfl rfl ?_
  refine AO.nil ?_
  refine AQ.thenN ?_
  refine AW.seq ?_
  refine AW.region ?_
  refine AO.op (O.assign rfl rfl) rfl rfl rfl ?_
  refine AO.nil ?_
  refine AQ.thenN ?_
  refine AW.seq ?_
  refine AW.seq ?_
  refine AW.region ?_
  refine AO.op (O.move rfl rfl) rfl rfl rfl ?_
  refine AO.op (O.move rfl rfl) rfl rfl rfl ?_
  refine AO.op (O.add rfl rfl rfl (by exact wI64 (by omega))) rfl rfl rfl ?_
  refine AO.callMG 0 rfl rfl Try.func36 rfl rfl rfl rfl rfl rfl (next_any _ l _ _ hl (by assumption) (by omega) (by omega)) ?_
  rintro _ _ ⟨⟨z, hz0, hz1, rfl⟩, kd, hkd, rfl⟩
  dsimp only [List.cons_append, List.nil_append, List.eraseIdx]
  refine AO.op (O.assign rfl rfl) rfl rfl rfl ?_
  refine AO.nil ?_
  refine AQ.thenN ?_
  refine AW.block ?_
  obtain ⟨c, rfl⟩ : ∃ c : Nat, z = (c : Int) := ⟨z.toNat, by omega⟩
  refine AW.g ?_
  refine G.nilRow 5 1 ?_
  refine AW.u ?_
  refine AW.loopK [(0, _)] (fun nn E H => ∃ (c' : Nat) (out : List UInt8) (V : Value) (kk : Nat), (out.length + c' ≤ n) ∧ (V.oneCell' = true) ∧ (kk ≤ l.length) ∧ c' = nn ∧ E = [(5, .val V), (6, .val (.int .i64 (c' : Int)))] ∧ H = [.row V 5 1 out.length (bytesA out), deck b l kk]) _ (⟨c, [], .slice none 0 0, kd, by simp <;> omega, rfl, hkd, rfl, rfl, rfl⟩) (by repeat (first | exact envNil | refine envCons rfl ?_)) (by repeat (first | exact envNil | refine envCons rfl ?_)) (by repeat (first | exact subPnil | refine subPcons 0 rfl ?_)) ?_
  rintro nn E H ⟨c', out, V, kk, h1, hV, h3, rfl, rfl, rfl⟩
  dsimp only [List.cons_append, List.nil_append]
  refine AW.seq ?_
  refine AW.seq ?_
  refine AW.region ?_
  refine AO.op (O.move rfl rfl) rfl rfl rfl ?_
  refine AO.op (O.gtr rfl rfl rfl (by rfl)) rfl rfl rfl ?_
  refine AO.nil ?_
  refine AQ.thenN ?_
  refine AW.split rfl (fun h => ?_) (fun h => ?_) <;> (try simp only [decide_eq_true_eq, decide_eq_false_iff_not, beq_iff_eq, beq_eq_false_iff_ne, bne_iff_ne, bne_eq_false_iff_eq, Bool.not_eq_true', Bool.not_eq_false', Bool.not_eq_true, Bool.not_eq_false, ne_eq, Int.not_lt, Int.not_le, Bool.and_eq_true, Bool.or_eq_true, Bool.or_eq_false_iff, Bool.and_eq_false_imp, strOf_toList, Decidable.not_not] at h)
  · skip
    obtain ⟨j, rfl⟩ : ∃ j, c' = j + 1 := ⟨c' - 1, by omega⟩
    refine AW.skip ?_
    refine AQ.thenN ?_
    refine AW.seq ?_
    refine AW.block ?_
    refine AW.region ?_
    refine AO.op (O.move rfl rfl) rfl rfl rfl ?_
    refine AO.op (O.move rfl rfl) rfl rfl rfl ?_
    refine AO.callMG 1 rfl rfl Try.func36 rfl rfl rfl rfl rfl rfl (next_any _ l _ _ hl (by assumption) (by omega) (by omega)) ?_
    rintro _ _ ⟨⟨z, hz0, hz1, rfl⟩, kd, hkd, rfl⟩
    dsimp only [List.cons_append, List.nil_append, List.eraseIdx]
    refine AO.op (O.conv rfl rfl wU8any) rfl rfl rfl ?_
    refine AO.opB (O.buildSlice rfl rfl rfl (by rfl) (by rfl) (by rfl) (by rfl)) rfl rfl rfl ?_
    intro B
    refine AO.g ?_
    (refine G.freezeSl 0 19 rfl rfl ⟨Nat.le_refl _, by unfold maxLen; omega⟩ ?_)
    refine G.unfull 19 rfl ?_
    refine AO.u ?_
    dsimp only [List.eraseIdx]
    (refine AO.append' (i := 1) rfl rfl rfl rfl (by rfl) (by rfl) rfl rfl rfl (by exact SrcA.ro TyD.ax (by rfl) (Nat.le_of_ble_eq_true rfl)) (by rfl) (by (unfold maxLen; omega)) (by omega) (by (dsimp only [List.set, List.append, List.cons_append, List.nil_append, splice, ofConst, AV.cells, List.map, List.map_cons, List.map_nil, List.take, List.drop, Nat.zero_add, Nat.add_zero, Nat.reduceAdd, Nat.reduceMul, Nat.zero_mul, Value.cells, List.toList_toArray, zerosA, List.replicate, List.flatten, List.append_nil]; done)) (fun _ => by (dsimp only [List.set]; done)) ?_)
    intro V hV
    refine AO.op (O.assign rfl rfl) rfl rfl rfl ?_
    refine AO.nil ?_
    refine AQ.blockN ?_
    refine AQ.thenN ?_
    refine AW.region ?_
    refine AO.op (O.move rfl rfl) rfl rfl rfl ?_
    refine AO.op (O.sub rfl rfl rfl (by exact wI64 (by omega))) rfl rfl rfl ?_
    refine AO.op (O.assign rfl rfl) rfl rfl rfl ?_
    refine AO.nil ?_
    rw [show ((j + 1 : Nat) : Int) - 1 = (j : Int) by omega]
    refine AQ.loopKN _ _ _ (by omega) (⟨j, out ++ [u8 z], V, kd, by simp; omega, hV, hkd, rfl, rfl, by rw [bytesA_app, List.length_append] <;> rfl⟩) (by repeat (first | exact envNil | refine envCons rfl ?_)) (by repeat (first | exact envNil | refine envCons rfl ?_)) (by repeat (first | exact subPnil | refine subPcons 0 rfl ?_ | refine subPcons 1 rfl ?_))
  · skip
    refine AW.exit ?_
    refine AQ.thenX ?_
    refine AQ.loopX ?_
    refine AQ.blockX rfl ?_
    refine AQ.thenN ?_
    refine AW.seq ?_
    refine AW.region ?_
    refine AO.op (O.move rfl rfl) rfl rfl rfl ?_
    refine AO.op (O.assign rfl rfl) rfl rfl rfl ?_
    refine AO.nil ?_
    refine AQ.thenN ?_
    refine AW.ret ?_
    refine AQ.g ?_
    refine G.freezeRow 0 rfl [4] (by repeat (first | exact frNil | refine frCons rfl ?_)) ?_
    refine AQ.u ?_
    dsimp only [List.map, List.eraseIdx, List.cons_append, List.nil_append]
    refine AQ.ret1 rfl rfl ⟨_, by repeat (first | exact List.Sublist.slnil | refine List.Sublist.cons_cons _ ?_), List.Perm.refl _⟩ (⟨⟨out, by omega, roB_of rfl rfl⟩, _, h3, rfl⟩)

set_option maxHeartbeats 2000000 in
theorem spoilt_fn (b : List UInt8) (at' by' : Int) (hb : b.length ≤ 4294967296) (hw : -9223372036854775808 ≤ by' ∧ by' ≤ 9223372036854775807) :
    Sp Try.prog 15 [roB b, .val (.int .i64 at'), .val (.int .i64 by')] [] (Some1 (IsBytes (b.length + 1))) := by
  refine Sp.enter Try.func15 rfl _ Try.ntmps15 rfl (fun w0 R0 => ?_)
  refine AW.seq ?_
  refine AW.region ?_
  refine AO.op (O.assign rfl rfl) rfl rfl rfl ?_
  refine AO.nil ?_
  refine AQ.thenN ?_
  refine AW.seq ?_
  refine AW.region ?_
  refine AO.op (O.move rfl rfl) rfl rfl rfl ?_
  refine AO.opRow (O.appendNil rfl (by rfl) (by rfl) rfl rfl (by exact SrcA.ro TyD.ax (by (simp; done)) (Nat.le_of_ble_eq_true rfl)) (by (simp [AV.cells, AV.one, *]; done)) (by (unfold maxLen; omega)) (by omega)) rfl rfl rfl ?_
  intro V hV
  refine AO.op (O.assign rfl rfl) rfl rfl rfl ?_
  refine AO.nil ?_
  refine AQ.thenN ?_
  refine AW.seq ?_
  refine AW.seq ?_
  refine AW.region ?_
  refine AO.op (O.move rfl rfl) rfl rfl rfl ?_
  refine AO.op (O.lenRow rfl rfl (by repeat (exact List.Mem.head _))) rfl rfl rfl ?_
  refine AO.op (O.eql rfl rfl rfl (by rfl)) rfl rfl rfl ?_
  refine AO.nil ?_
  refine AQ.thenN ?_
  refine AW.split rfl (fun h => ?_) (fun h => ?_) <;> (try simp only [decide_eq_true_eq, decide_eq_false_iff_not, beq_iff_eq, beq_eq_false_iff_ne, bne_iff_ne, bne_eq_false_iff_eq, Bool.not_eq_true', Bool.not_eq_false', Bool.not_eq_true, Bool.not_eq_false, ne_eq, Int.not_lt, Int.not_le, Bool.and_eq_true, Bool.or_eq_true, Bool.or_eq_false_iff, Bool.and_eq_false_imp, strOf_toList, Decidable.not_not] at h)
  · skip
    refine AW.seq ?_
    refine AW.region ?_
    refine AO.op (O.move rfl rfl) rfl rfl rfl ?_
    refine AO.op (O.conv rfl rfl wU8any) rfl rfl rfl ?_
    refine AO.opB (O.buildSlice rfl rfl rfl (by rfl) (by rfl) (by rfl) (by rfl)) rfl rfl rfl ?_
    intro B
    refine AO.op (O.assign rfl rfl) rfl rfl rfl ?_
    refine AO.nil ?_
    refine AQ.thenN ?_
    refine AW.ret ?_
    refine AQ.thenR ?_
    refine AQ.g ?_
    refine G.freezeSl 0 6 rfl rfl ⟨Nat.le_refl _, by unfold maxLen; omega⟩ ?_
    refine AQ.u ?_
    refine AQ.g ?_
    refine G.unfull 6 rfl ?_
    refine AQ.u ?_
    refine AQ.ret1 rfl rfl ⟨_, List.nil_sublist _, .nil⟩ (⟨⟨[u8 by'], by simp, rfl⟩, rfl⟩)
  · skip
    have hlen : 0 < b.length := by omega
    have q1 := Int.emod_nonneg at' (show (b.length : Int) ≠ 0 by omega)
    have q2 := Int.emod_lt_of_pos at' (show (0 : Int) < b.length by omega)
    have q3 : by'.tdiv 256 = by'.tdiv 256 := rfl
    refine AW.skip ?_
    refine AQ.thenN ?_
    refine AW.seq ?_
    refine AW.region ?_
    refine AO.op (O.move rfl rfl) rfl rfl rfl ?_
    refine AO.op (O.move rfl rfl) rfl rfl rfl ?_
    refine AO.op (O.lenRow rfl rfl (by repeat (exact List.Mem.head _))) rfl rfl rfl ?_
    refine AO.op (O.call rfl Try.func16 rfl rfl rfl (Dk.mod_fn _ _ (by omega) (by omega))) rfl rfl rfl ?_
    refine AO.op (O.assign rfl rfl) rfl rfl rfl ?_
    refine AO.nil ?_
    refine AQ.thenN ?_
    refine AW.seq ?_
    refine AW.seq ?_
    refine AW.region ?_
    refine AO.op (O.move rfl rfl) rfl rfl rfl ?_
    refine AO.op (O.quo rfl rfl rfl (by omega) (by rfl)) rfl rfl rfl ?_
    refine AO.op (O.call rfl Try.func16 rfl rfl rfl (Dk.mod_fn _ _ (by omega) (by omega))) rfl rfl rfl ?_
    refine AO.nil ?_
    refine AQ.thenN ?_
    refine AW.block ?_
    refine AW.seq ?_
    refine AW.region ?_
    refine AO.op (O.eql rfl rfl rfl (by rfl)) rfl rfl rfl ?_
    refine AO.op (O.assign rfl rfl) rfl rfl rfl ?_
    refine AO.nil ?_
    refine AQ.thenN ?_
    obtain ⟨k, hk⟩ : ∃ k : Nat, at' % (b.length : Int) = (k : Int) := ⟨(at' % (b.length : Int)).toNat, by omega⟩
    rw [hk] at q1 q2 ⊢
    refine AW.g ?_
    refine G.openRow 0 rfl (by omega) (fun b' cap hc1 hc2 hxs hVe => ?_)
    refine AW.u ?_
    subst hVe
    have hc3 := hc2
    unfold maxLen at hc3
    refine AW.split rfl (fun h1 => ?_) (fun h1 => ?_) <;> (try simp only [decide_eq_true_eq, decide_eq_false_iff_not, beq_iff_eq, beq_eq_false_iff_ne, bne_iff_ne, bne_eq_false_iff_eq, Bool.not_eq_true', Bool.not_eq_false', Bool.not_eq_true, Bool.not_eq_false, ne_eq, Int.not_lt, Int.not_le, Bool.and_eq_true, Bool.or_eq_true, Bool.or_eq_false_iff, Bool.and_eq_false_imp, strOf_toList, Decidable.not_not] at h1)
    · skip
      refine AW.region ?_
      refine AO.op (O.move rfl rfl) rfl rfl rfl ?_
      refine AO.op (O.move rfl rfl) rfl rfl rfl ?_
      refine AO.op (O.move rfl rfl) rfl rfl rfl ?_
      refine AO.op (O.conv rfl rfl wU8any) rfl rfl rfl ?_
      refine AO.op (O.idxV rfl rfl rfl ⟨(by omega), (by omega)⟩) rfl rfl rfl ?_
      (refine AO.store (i := 0) rfl rfl rfl rfl rfl rfl (by rfl) (by rfl) (by exact Nat.ble_eq_true_of_le (by simp; omega)) (by rfl) (by (dsimp only [List.set, List.append, List.cons_append, List.nil_append, splice, ofConst, AV.cells, List.map, List.map_cons, List.map_nil, List.take, List.drop, Nat.zero_add, Nat.add_zero, Nat.reduceAdd, Nat.reduceMul, Nat.zero_mul, Value.cells, List.toList_toArray, zerosA, List.replicate, List.flatten, List.append_nil]; done)) ?_)
      refine AO.nil ?_
      refine AQ.blockN ?_
      refine AQ.thenN ?_
      refine AW.seq ?_
      refine AW.region ?_
      refine AO.op (O.move rfl rfl) rfl rfl rfl ?_
      refine AO.op (O.assign rfl rfl) rfl rfl rfl ?_
      refine AO.nil ?_
      refine AQ.thenN ?_
      refine AW.ret ?_
      refine AQ.g ?_
      refine G.closeRow (b := b') 0 rfl (by simp) rfl hc1 hc2 ?_
      refine AQ.u ?_
      refine AQ.g ?_
      refine G.freezeRow 0 rfl [6] (by repeat (first | exact frNil | refine frCons rfl ?_)) ?_
      refine AQ.u ?_
      dsimp only [List.map, List.eraseIdx, List.cons_append, List.nil_append]
      refine AQ.ret1 rfl rfl ⟨_, List.nil_sublist _, .nil⟩ (⟨⟨b.set k (u8 by'), by simp, roB_of (by simp) (by simp [bytesA, List.map_set])⟩, rfl⟩)
    · skip
      refine AW.seq ?_
      refine AW.region ?_
      refine AO.op (O.eql rfl rfl rfl (by rfl)) rfl rfl rfl ?_
      refine AO.op (O.assign rfl rfl) rfl rfl rfl ?_
      refine AO.nil ?_
      refine AQ.thenN ?_
      refine AW.split rfl (fun h2 => ?_) (fun h2 => ?_) <;> (try simp only [decide_eq_true_eq, decide_eq_false_iff_not, beq_iff_eq, beq_eq_false_iff_ne, bne_iff_ne, bne_eq_false_iff_eq, Bool.not_eq_true', Bool.not_eq_false', Bool.not_eq_true, Bool.not_eq_false, ne_eq, Int.not_lt, Int.not_le, Bool.and_eq_true, Bool.or_eq_true, Bool.or_eq_false_iff, Bool.and_eq_false_imp, strOf_toList, Decidable.not_not] at h2)
      · skip
        rcases Nat.lt_or_ge (k + 1) b.length with h3 | h3
        · skip
          refine AW.seq ?_
          refine AW.regionD 7 (by kernel_rfl) (by kernel_rfl) ?_
          simp only [List.take_succ_cons, List.take_zero, List.drop_succ_cons, List.drop_zero]
          refine FA.op (O.move rfl rfl) rfl rfl rfl rfl ?_
          refine FA.op (O.move rfl rfl) rfl rfl rfl rfl ?_
          refine FA.op (O.sliceV rfl rfl rfl rfl ⟨by omega, by omega, by omega⟩ (by omega)) rfl rfl rfl rfl ?_
          refine FA.op (O.move rfl rfl) rfl rfl rfl rfl ?_
          refine FA.op (O.move rfl rfl) rfl rfl rfl rfl ?_
          refine FA.op (O.add rfl rfl rfl (by exact wI64 (by omega))) rfl rfl rfl rfl ?_
          refine FA.op (O.sliceV rfl rfl rfl rfl ⟨by omega, by omega, by omega⟩ (by omega)) rfl rfl rfl rfl ?_
          refine FA.nil ?_
          simp only [chosen, List.nil_append, List.cons_append, List.append_nil]
          (refine AO.appendCut (i := 0) rfl rfl rfl rfl (by rfl) (by rfl) rfl rfl rfl (by omega) (by exact SrcA.blk TyD.ax (by repeat (exact List.Mem.head _)) (by (dsimp only [List.set, List.append, List.cons_append, List.nil_append, splice, ofConst, AV.cells, List.map, List.map_cons, List.map_nil, List.take, List.drop, Nat.zero_add, Nat.add_zero, Nat.reduceAdd, Nat.reduceMul, Nat.zero_mul, Value.cells, List.toList_toArray, zerosA, List.replicate, List.flatten, List.append_nil]; done)) (by (simp; done))) (by (simp [AV.cells, AV.one, *]; done)) (by (unfold maxLen; omega)) (by omega) ⟨by omega, by assumption⟩ (by (dsimp only [List.set, List.append, List.cons_append, List.nil_append, splice, ofConst, AV.cells, List.map, List.map_cons, List.map_nil, List.take, List.drop, Nat.zero_add, Nat.add_zero, Nat.reduceAdd, Nat.reduceMul, Nat.zero_mul, Value.cells, List.toList_toArray, zerosA, List.replicate, List.flatten, List.append_nil]; done)) (fun _ => by (dsimp only [List.set]; done)) ?_)
          intro V hV
          refine AO.op (O.assign rfl rfl) rfl rfl rfl ?_
          refine AO.nil ?_
          refine AQ.thenN ?_
          refine AW.ret ?_
          refine AQ.blockR ?_
          refine AQ.thenR ?_
          refine AQ.g ?_
          refine G.freezeRow 0 rfl [6] (by repeat (first | exact frNil | refine frCons rfl ?_)) ?_
          refine AQ.u ?_
          dsimp only [List.map, List.eraseIdx, List.cons_append, List.nil_append]
          refine AQ.ret1 rfl rfl ⟨_, List.nil_sublist _, .nil⟩ (⟨⟨b.take k ++ b.drop (k + 1), by simp <;> omega, roB_of (by simp <;> omega) (by simp; rw [List.take_of_length_le (by simp)])⟩, rfl⟩)
        · skip
          refine AW.seq ?_
          refine AW.regionD 7 (by kernel_rfl) (by kernel_rfl) ?_
          simp only [List.take_succ_cons, List.take_zero, List.drop_succ_cons, List.drop_zero]
          refine FA.op (O.move rfl rfl) rfl rfl rfl rfl ?_
          refine FA.op (O.move rfl rfl) rfl rfl rfl rfl ?_
          refine FA.op (O.sliceV rfl rfl rfl rfl ⟨by omega, by omega, by omega⟩ (by omega)) rfl rfl rfl rfl ?_
          refine FA.op (O.move rfl rfl) rfl rfl rfl rfl ?_
          refine FA.op (O.move rfl rfl) rfl rfl rfl rfl ?_
          refine FA.op (O.add rfl rfl rfl (by exact wI64 (by omega))) rfl rfl rfl rfl ?_
          refine FA.op (O.sliceV0 rfl rfl rfl rfl ⟨by omega, by omega, by omega⟩ (by omega) (by assumption)) rfl rfl rfl rfl ?_
          refine FA.nil ?_
          simp only [chosen, List.nil_append, List.cons_append, List.append_nil]
          (refine AO.appendCut (i := 0) rfl rfl rfl rfl (by rfl) (by rfl) rfl rfl rfl (by omega) (by exact SrcA.ro TyD.ax (by rfl) (Nat.le_of_ble_eq_true rfl)) (by rfl) (by (unfold maxLen; omega)) (by omega) ⟨by omega, by assumption⟩ (by (dsimp only [List.set, List.append, List.cons_append, List.nil_append, splice, ofConst, AV.cells, List.map, List.map_cons, List.map_nil, List.take, List.drop, Nat.zero_add, Nat.add_zero, Nat.reduceAdd, Nat.reduceMul, Nat.zero_mul, Value.cells, List.toList_toArray, zerosA, List.replicate, List.flatten, List.append_nil]; done)) (fun _ => by (dsimp only [List.set]; done)) ?_)
          intro V hV
          refine AO.op (O.assign rfl rfl) rfl rfl rfl ?_
          refine AO.nil ?_
          refine AQ.thenN ?_
          refine AW.ret ?_
          refine AQ.blockR ?_
          refine AQ.thenR ?_
          refine AQ.g ?_
          refine G.freezeRow 0 rfl [6] (by repeat (first | exact frNil | refine frCons rfl ?_)) ?_
          refine AQ.u ?_
          dsimp only [List.map, List.eraseIdx, List.cons_append, List.nil_append]
          refine AQ.ret1 rfl rfl ⟨_, List.nil_sublist _, .nil⟩ (⟨⟨b.take k, by simp <;> omega, roB_of (by simp <;> omega) (by simp)⟩, rfl⟩)
      · skip
        refine AW.g ?_
        refine G.closeRow (b := b') 0 rfl (by simp) rfl hc1 hc2 ?_
        refine AW.u ?_
        refine AW.g ?_
        refine G.freezeRow 0 rfl [7] (by repeat (first | exact frNil | refine frCons rfl ?_)) ?_
        refine AW.u ?_
        try dsimp only [List.map, List.eraseIdx, List.cons_append, List.nil_append]
        refine AW.seq ?_
        refine AW.region ?_
        refine AO.op (O.eql rfl rfl rfl (by rfl)) rfl rfl rfl ?_
        refine AO.op (O.assign rfl rfl) rfl rfl rfl ?_
        refine AO.nil ?_
        refine AQ.thenN ?_
        refine AW.split rfl (fun h4 => ?_) (fun h4 => ?_) <;> (try simp only [decide_eq_true_eq, decide_eq_false_iff_not, beq_iff_eq, beq_eq_false_iff_ne, bne_iff_ne, bne_eq_false_iff_eq, Bool.not_eq_true', Bool.not_eq_false', Bool.not_eq_true, Bool.not_eq_false, ne_eq, Int.not_lt, Int.not_le, Bool.and_eq_true, Bool.or_eq_true, Bool.or_eq_false_iff, Bool.and_eq_false_imp, strOf_toList, Decidable.not_not] at h4)
        · skip
          refine AW.seq ?_
          refine AW.regionM [(0, false), (1, false), (2, false), (4, false), (5, false), (6, false), (8, false), (9, false), (10, false), (3, true), (7, true), (11, true), (12, false)] (by kernel_rfl) (by kernel_rfl) (by exact splitNil) ?_
          dsimp only [List.eraseIdx]
          refine AM.op rfl (O.move rfl rfl) rfl rfl rfl ?_
          refine AM.op rfl (O.move rfl rfl) rfl rfl rfl ?_
          refine AM.op rfl (O.sliceToB rfl rfl rfl (by rfl) (by omega)) rfl rfl rfl ?_
          refine AM.op rfl (O.move rfl rfl) rfl rfl rfl ?_
          refine AM.op rfl (O.conv rfl rfl wU8any) rfl rfl rfl ?_
          refine AM.op rfl (OpW.frz (O.buildSlice rfl rfl rfl (by rfl) (by rfl) (by rfl) (by rfl)) (by (unfold maxLen; omega))) rfl rfl rfl ?_
          refine AM.op rfl (O.move rfl rfl) rfl rfl rfl ?_
          refine AM.op rfl (O.move rfl rfl) rfl rfl rfl ?_
          refine AM.op rfl (O.sliceFromB rfl rfl rfl (by rfl) (by omega)) rfl rfl rfl ?_
          refine AM.main _ rfl (fun w0 R0 => ?_)
          refine AO.opRow (O.appendNil rfl (by rfl) (by rfl) rfl rfl (by exact SrcA.ro TyD.ax (by (simp; done)) (Nat.le_of_ble_eq_true rfl)) (by (simp [AV.cells, AV.one, *]; done)) (by (unfold maxLen; simp only [List.length_take, List.length_drop, List.length_append, List.length_cons, List.length_nil, List.length_set, Nat.zero_add]; omega)) (by (simp only [List.length_take, List.length_drop, List.length_append, List.length_cons, List.length_nil, List.length_set, Nat.zero_add]; omega))) rfl rfl rfl ?_
          intro V hV
          refine AM.ok ?_
          dsimp only [putE]
          refine AM.main _ rfl (fun w0 R0 => ?_)
          (refine AO.append' (i := 0) rfl rfl rfl rfl (by rfl) (by rfl) rfl rfl rfl (by exact SrcA.ro TyD.ax (by rfl) (Nat.le_of_ble_eq_true rfl)) (by rfl) (by (unfold maxLen; simp only [List.length_take, List.length_drop, List.length_append, List.length_cons, List.length_nil, List.length_set, Nat.zero_add]; omega)) (by (simp only [List.length_take, List.length_drop, List.length_append, List.length_cons, List.length_nil, List.length_set, Nat.zero_add]; omega)) (by (dsimp only [List.set, List.append, List.cons_append, List.nil_append, splice, ofConst, AV.cells, List.map, List.map_cons, List.map_nil, List.take, List.drop, Nat.zero_add, Nat.add_zero, Nat.reduceAdd, Nat.reduceMul, Nat.zero_mul, Value.cells, List.toList_toArray, zerosA, List.replicate, List.flatten, List.append_nil]; done)) (fun _ => by (dsimp only [List.set]; done)) ?_)
          intro V hV
          refine AM.ok ?_
          dsimp only [putE]
          refine AM.main _ rfl (fun w0 R0 => ?_)
          (refine AO.append' (i := 0) rfl rfl rfl rfl (by rfl) (by rfl) rfl rfl rfl (by exact SrcA.ro TyD.ax (by (simp; done)) (Nat.le_of_ble_eq_true rfl)) (by (simp [AV.cells, AV.one, *]; done)) (by (unfold maxLen; simp only [List.length_take, List.length_drop, List.length_append, List.length_cons, List.length_nil, List.length_set, Nat.zero_add]; omega)) (by (simp only [List.length_take, List.length_drop, List.length_append, List.length_cons, List.length_nil, List.length_set, Nat.zero_add]; omega)) (by (dsimp only [List.set, List.append, List.cons_append, List.nil_append, splice, ofConst, AV.cells, List.map, List.map_cons, List.map_nil, List.take, List.drop, Nat.zero_add, Nat.add_zero, Nat.reduceAdd, Nat.reduceMul, Nat.zero_mul, Value.cells, List.toList_toArray, zerosA, List.replicate, List.flatten, List.append_nil]; done)) (fun _ => by (dsimp only [List.set]; done)) ?_)
          intro V hV
          refine AM.ok ?_
          dsimp only [putE]
          refine AM.op rfl (O.assign rfl rfl) rfl rfl rfl ?_
          refine AM.nil ?_
          dsimp only [List.cons_append, List.nil_append]
          refine AQ.thenN ?_
          refine AW.ret ?_
          refine AQ.blockR ?_
          refine AQ.thenR ?_
          refine AQ.g ?_
          refine G.freezeRow 0 rfl [6] (by repeat (first | exact frNil | refine frCons rfl ?_)) ?_
          refine AQ.u ?_
          try dsimp only [List.map, List.eraseIdx, List.cons_append, List.nil_append]
          refine AQ.ret1 rfl rfl ⟨_, List.nil_sublist _, .nil⟩ (⟨⟨b.take k ++ [u8 by'] ++ b.drop k, by simp <;> omega, roB_of (by simp <;> omega) (by simp <;> rfl)⟩, rfl⟩)
        · skip
          refine AW.seq ?_
          refine AW.region ?_
          refine AO.op (O.move rfl rfl) rfl rfl rfl ?_
          refine AO.op (O.move rfl rfl) rfl rfl rfl ?_
          refine AO.op (O.sliceToB rfl rfl rfl (by rfl) (by omega)) rfl rfl rfl ?_
          refine AO.op (O.assign rfl rfl) rfl rfl rfl ?_
          refine AO.nil ?_
          refine AQ.thenN ?_
          refine AW.ret ?_
          refine AQ.blockR ?_
          refine AQ.thenR ?_
          refine AQ.g ?_
          refine G.unfull 6 rfl ?_
          refine AQ.u ?_
          try dsimp only [List.map, List.eraseIdx, List.cons_append, List.nil_append]
          refine AQ.ret1 rfl rfl ⟨_, List.nil_sublist _, .nil⟩ (⟨⟨b.take k, by simp <;> omega, roB_of (by simp <;> omega) (by simp)⟩, rfl⟩)
end Go.Proofs.Ytiddmpmpjdnmeaa.By
