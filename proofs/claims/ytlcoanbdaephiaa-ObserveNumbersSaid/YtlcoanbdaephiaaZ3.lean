/-
  ObserveNumbers, the statement: for every input the law returns true, and its arguments read as before. No condition.
-/
import Derived.ChangeSame
import Derived.JoinedOf
import Derived.JoinedAt
import Derived.RowKit3
import Derived.ReadAgain
import Derived.Deep.Slices
import Derived.ChangeSlices
import Derived.Test.YtlcoanbdaephiaaZ2
namespace Go.Proofs.Ytlcoanbdaephiaa.Dk
open Go.RowKit L A
set_option linter.unusedVariables false
set_option linter.unusedSimpArgs false
attribute [local irreducible] AW AQ AO

theorem left_fn (b : Nat) (l : List Int) (k : Nat) :
    Sp Try.prog 33 [ptr b] [deck b l k] (IsM (.val (.bool (decide (k < l.length)))) (deck b l k)) := by
  refine Sp.enter Try.func33 rfl _ Try.ntmps33 rfl (fun w0 R0 => ?_)
  refine AW.seq ?_
  refine AW.region ?_
  refine AO.op (O.assign rfl rfl) rfl rfl rfl ?_
  refine AO.nil ?_
  refine AQ.thenN ?_
  refine AW.seq ?_
  refine AW.regionD 11 (by kernel_rfl) (by kernel_rfl) ?_
  simp only [List.take_succ_cons, List.take_zero, List.drop_succ_cons, List.drop_zero]
  refine FA.op (O.move rfl rfl) rfl rfl rfl rfl ?_
  first | (refine FA.op (O.nilCheck rfl rfl) rfl rfl rfl rfl ?_) | (refine FA.op (O.nilCheckR rfl rfl) rfl rfl rfl rfl ?_)
  first | (refine FA.op (O.fieldAddrR rfl rfl) rfl rfl rfl rfl ?_) | (refine FA.op (O.fieldAddr rfl rfl) rfl rfl rfl rfl ?_)
  first | (refine FA.op (O.loadR rfl rfl (by first | rfl | assumption)) rfl rfl rfl rfl ?_) | (refine FA.op (O.load rfl rfl (by repeat (first | exact List.Mem.head _ | refine List.Mem.tail _ ?_)) (by first | rfl | assumption)) rfl rfl rfl rfl ?_)
  refine FA.op (O.move rfl rfl) rfl rfl rfl rfl ?_
  first | (refine FA.op (O.nilCheck rfl rfl) rfl rfl rfl rfl ?_) | (refine FA.op (O.nilCheckR rfl rfl) rfl rfl rfl rfl ?_)
  first | (refine FA.op (O.fieldAddrR rfl rfl) rfl rfl rfl rfl ?_) | (refine FA.op (O.fieldAddr rfl rfl) rfl rfl rfl rfl ?_)
  first | (refine FA.op (O.loadR rfl rfl (by first | rfl | assumption)) rfl rfl rfl rfl ?_) | (refine FA.op (O.load rfl rfl (by repeat (first | exact List.Mem.head _ | refine List.Mem.tail _ ?_)) (by first | rfl | assumption)) rfl rfl rfl rfl ?_)
  first | (refine FA.op (O.lenR rfl rfl) rfl rfl rfl rfl ?_) | (refine FA.op (O.lenV rfl rfl) rfl rfl rfl rfl ?_) | (refine FA.op (O.lenRow rfl rfl (by repeat (first | exact List.Mem.head _ | refine List.Mem.tail _ ?_))) rfl rfl rfl rfl ?_) | (refine FA.op (O.lenS rfl rfl) rfl rfl rfl rfl ?_)
  refine FA.op (O.lss rfl rfl rfl (by first | exact bTrue (by omega) | exact bFalse (by omega) | assumption | rfl)) rfl rfl rfl rfl ?_
  refine FA.op (O.assign rfl rfl) rfl rfl rfl rfl ?_
  refine FA.nil ?_
  simp only [chosen, List.nil_append, List.cons_append, List.append_nil]
  refine AO.nil ?_
  refine AQ.thenN ?_
  refine AW.ret ?_
  have e1 : decide ((k : Int) < (l.length : Int)) = decide (k < l.length) := by simp
  refine AQ.ret1 rfl rfl ⟨_, by repeat (first | exact List.Sublist.slnil | refine List.Sublist.cons_cons _ ?_ | refine List.Sublist.cons _ ?_), List.Perm.refl _⟩ (⟨congrArg (fun z => AV.val (.bool z)) e1, rfl⟩)
end Go.Proofs.Ytlcoanbdaephiaa.Dk

namespace Go.Proofs.Ytlcoanbdaephiaa.Ob
open Go.RowKit L A Dk
set_option linter.unusedVariables false
set_option linter.unusedSimpArgs false
attribute [local irreducible] AW AQ AO
abbrev mapW (b : Nat) (M : Ents) : HE := mapHE Try.prog 44 3 b M
theorem adv_in {l : List Int} {k : Nat} (h : k < l.length) : adv l k = k + 1 := if_pos h
theorem adv_ge (l : List Int) (k : Nat) : k ≤ adv l k := by unfold adv; split <;> omega
set_option maxHeartbeats 8000000 in
theorem lawNumbers_fn (l told : List Int) (hl : l.length ≤ maxLen) (ht : told.length ≤ maxLen) : Sp Try.prog 8 [roI l, roI told] [] (Is (.val (.bool true))) := by
  refine Sp.enter Try.func8 rfl _ Try.ntmps8 rfl (fun w0 R0 => ?_)
  refine AW.seq ?_
  refine AW.region ?_
  refine AO.op (O.assign rfl rfl) rfl rfl rfl ?_
  refine AO.nil ?_
  refine AQ.thenN ?_
  refine AW.seq ?_
  refine AW.seq ?_
  refine AW.region ?_
  refine AO.op (O.move rfl rfl) rfl rfl rfl ?_
  refine AO.op (O.call rfl Try.func32 rfl rfl rfl (few_fn _)) rfl rfl rfl ?_
  refine AO.op (O.not rfl rfl (by rfl)) rfl rfl rfl ?_
  refine AO.nil ?_
  refine AQ.thenN ?_
  refine AW.split rfl (fun hfew => ?_) (fun hfew => ?_) <;> (try simp only [decide_eq_true_eq, decide_eq_false_iff_not, beq_iff_eq, beq_eq_false_iff_ne, bne_iff_ne, bne_eq_false_iff_eq, Bool.not_eq_true', Bool.not_eq_false', Bool.not_eq_true, Bool.not_eq_false, ne_eq, Int.not_lt, Int.not_le, Bool.and_eq_true, Bool.or_eq_true, Bool.or_eq_false_iff, Bool.and_eq_false_imp, strOf_toList, Decidable.not_not] at hfew)
  · skip
    refine AW.seq ?_
    refine AW.region ?_
    refine AO.op (O.call rfl Try.func11 rfl rfl rfl (awake_fn)) rfl rfl rfl ?_
    refine AO.op (O.assign rfl rfl) rfl rfl rfl ?_
    refine AO.nil ?_
    refine AQ.thenN ?_
    refine AW.ret ?_
    refine AQ.thenR ?_
    refine AQ.ret1 rfl rfl ⟨_, List.nil_sublist _, .nil⟩ (⟨rfl, rfl⟩)
  · skip
    refine AW.skip ?_
    refine AQ.thenN ?_
    refine AW.seq ?_
    refine AW.region ?_
    refine AO.op (O.move rfl rfl) rfl rfl rfl ?_
    refine AO.opB (O.call rfl Try.func13 rfl rfl rfl (Dk.new_fn _)) rfl rfl rfl ?_
    intro B1
    (refine AO.callM1 (i := 0) rfl rfl Try.func12 rfl rfl rfl rfl rfl rfl (registry_fn _ l 0 hl (Nat.zero_le _)) (by (dsimp only [List.set, List.append, List.cons_append, List.nil_append, splice, ofConst, AV.cells, List.map, List.map_cons, List.map_nil, List.take, List.drop, Nat.zero_add, Nat.add_zero, Nat.reduceAdd, Nat.reduceMul, Nat.zero_mul, Value.cells, List.toList_toArray, zerosA, List.replicate, List.flatten, List.append_nil]; done)) ?_)
    refine AO.op (O.assign rfl rfl) rfl rfl rfl ?_
    refine AO.nil ?_
    refine AQ.thenN ?_
    refine AW.seq ?_
    refine AW.region ?_
    refine AO.opN (O.makeMap rfl) rfl rfl rfl ?_
    rintro _ _ ⟨B2, rfl, rfl⟩
    simp only [List.cons_append, List.nil_append]
    refine AO.op (O.assign rfl rfl) rfl rfl rfl ?_
    refine AO.nil ?_
    refine AQ.thenN ?_
    refine AW.seq ?_
    refine AW.seq ?_
    refine AW.region ?_
    refine AO.op (O.move rfl rfl) rfl rfl rfl ?_
    refine AO.op (O.lenR rfl rfl) rfl rfl rfl ?_
    refine AO.op (O.move rfl rfl) rfl rfl rfl ?_
    refine AO.nil ?_
    refine AQ.thenN ?_
    refine AW.block ?_
    obtain ⟨ws, hws⟩ : ∃ ws, ws = (regOf l 0).1 := ⟨_, rfl⟩
    have hnum : Num ws := by rw [hws]; exact regOf_num l 0
    rw [← hws]
    have hwl : ws.length ≤ 16 := hnum.v.len
    refine AW.loopK [(1, _), (5, _), (6, _), (34, _), (35, _)] (fun nn E H => ∃ (k : Nat) (M : Ents), (k ≤ ws.length) ∧ (M.Perm (entW (ws.take k))) ∧ nn = ws.length - k ∧ E = [(36, .val (.int .i64 (k : Int)))] ∧ H = [mapW B2 M]) _ (⟨0, [], by omega, List.Perm.refl _, rfl, rfl, rfl⟩) (by repeat (first | exact envNil | refine envCons rfl ?_)) (by repeat (first | exact envNil | refine envCons rfl ?_)) (by repeat (first | exact subPnil | refine subPcons 0 rfl ?_)) ?_
    rintro nn E H ⟨k, M, hk, hM, rfl, rfl, rfl⟩
    dsimp only [List.cons_append, List.nil_append]
    have hMl := ent_len hM
    rw [List.length_take] at hMl
    refine AW.seq ?_
    refine AW.region ?_
    refine AO.op (O.lss rfl rfl rfl (by rfl)) rfl rfl rfl ?_
    refine AO.nil ?_
    refine AQ.thenN ?_
    refine AW.seq ?_
    refine AW.split rfl (fun hlt => ?_) (fun hlt => ?_) <;> (try simp only [decide_eq_true_eq, decide_eq_false_iff_not, beq_iff_eq, beq_eq_false_iff_ne, bne_iff_ne, bne_eq_false_iff_eq, Bool.not_eq_true', Bool.not_eq_false', Bool.not_eq_true, Bool.not_eq_false, ne_eq, Int.not_lt, Int.not_le, Bool.and_eq_true, Bool.or_eq_true, Bool.or_eq_false_iff, Bool.and_eq_false_imp, strOf_toList, Decidable.not_not] at hlt)
    · skip
      have hk' : k < ws.length := by omega
      obtain ⟨w, hw⟩ : ∃ w, w = wat ws k := ⟨_, rfl⟩
      have hwm : w ∈ ws := by rw [hw]; simp [wat, hk']
      obtain ⟨t, ky, ht1, hk1, ht5⟩ := hnum.one w hwm
      have hbd := sound_bd (hnum.v.sound w hwm)
      have hwp : (Lit.int .i64 w.peer).wf = true := wfI64 ⟨by omega, by omega⟩
      have hwt : (Lit.int .i64 (t.toNat : Int)).wf = true := wfI64 ⟨by omega, by omega⟩
      have hgw := getW hk'
      have hst := ent_step hnum hk' hM
      rw [← hw] at hgw hst
      rw [kW_of ht1] at hst
      rw [ht1, hk1] at hgw
      refine AW.skip ?_
      refine AQ.thenN ?_
      refine AW.seq ?_
      refine AW.block ?_
      refine AW.seq ?_
      refine AW.region ?_
      refine AO.op (O.idxR rfl rfl rfl ⟨(by omega), (by omega)⟩) rfl rfl rfl ?_
      refine AO.op (O.loadRK rfl rfl (by exact hgw) (by rfl)) rfl rfl rfl ?_
      refine AO.opB (O.alloc rfl (by (dsimp only [List.set, List.append, List.cons_append, List.nil_append, splice, ofConst, AV.cells, List.map, List.map_cons, List.map_nil, List.take, List.drop, Nat.zero_add, Nat.add_zero, Nat.reduceAdd, Nat.reduceMul, Nat.zero_mul, Value.cells, List.toList_toArray, zerosA, List.replicate, List.flatten, List.append_nil]; done)) (by rfl)) rfl rfl rfl ?_
      intro B3
      (refine AO.store (i := 0) rfl rfl rfl rfl rfl rfl (by rfl) (by rfl) (by rfl) (by (dsimp only [List.set, List.append, List.cons_append, List.nil_append, splice, ofConst, AV.cells, List.map, List.map_cons, List.map_nil, List.take, List.drop, Nat.zero_add, Nat.add_zero, Nat.reduceAdd, Nat.reduceMul, Nat.zero_mul, Value.cells, List.toList_toArray, zerosA, List.replicate, List.flatten, List.append_nil]; done)) (by (dsimp only [List.set, List.append, List.cons_append, List.nil_append, splice, ofConst, AV.cells, List.map, List.map_cons, List.map_nil, List.take, List.drop, Nat.zero_add, Nat.add_zero, Nat.reduceAdd, Nat.reduceMul, Nat.zero_mul, Value.cells, List.toList_toArray, zerosA, List.replicate, List.flatten, List.append_nil]; done)) ?_)
      refine AO.nil ?_
      refine AQ.thenN ?_
      refine AW.regionD 11 (by kernel_rfl) (by kernel_rfl) ?_
      simp only [List.take_succ_cons, List.take_zero, List.drop_succ_cons, List.drop_zero]
      refine FA.op (O.move rfl rfl) rfl rfl rfl rfl ?_
      refine FA.op (O.fieldAddr rfl rfl) rfl rfl rfl rfl ?_
      refine FA.op (O.load rfl rfl (by repeat (exact List.Mem.head _)) (by rfl)) rfl rfl rfl rfl ?_
      refine FA.op (O.fieldAddr rfl rfl) rfl rfl rfl rfl ?_
      refine FA.op (O.load rfl rfl (by repeat (exact List.Mem.head _)) (by rfl)) rfl rfl rfl rfl ?_
      (refine FA.op (O.idxR rfl rfl rfl ⟨(by omega), (by (simp only [List.length_take, List.length_drop, List.length_append, List.length_cons, List.length_nil, List.length_set, Nat.zero_add]; omega))⟩) rfl rfl rfl rfl ?_)
      refine FA.op (O.loadR rfl rfl (by rfl)) rfl rfl rfl rfl ?_
      refine FA.op (O.conv rfl rfl (by exact wI64 (by omega))) rfl rfl rfl rfl ?_
      refine FA.op (O.build rfl rfl rfl (by rfl)) rfl rfl rfl rfl ?_
      refine FA.op (O.fieldAddr rfl rfl) rfl rfl rfl rfl ?_
      refine FA.op (O.load rfl rfl (by repeat (exact List.Mem.head _)) (by rfl)) rfl rfl rfl rfl ?_
      refine FA.nil ?_
      simp only [chosen, List.nil_append, List.cons_append, List.append_nil]
      (refine AO.mapPut (i := 1) rfl rfl rfl rfl rfl rfl rfl (by exact keyA2 (by assumption) (by assumption)) (by exact plainElem_int TyD.ax (by exact wfI64 ⟨by omega, by omega⟩)) (by ( unfold maxLen; omega)) (by (dsimp only [List.set, List.append, List.cons_append, List.nil_append, splice, ofConst, AV.cells, List.map, List.map_cons, List.map_nil, List.take, List.drop, Nat.zero_add, Nat.add_zero, Nat.reduceAdd, Nat.reduceMul, Nat.zero_mul, Value.cells, List.toList_toArray, zerosA, List.replicate, List.flatten, List.append_nil]; done)) ?_)
      refine AO.nil ?_
      refine AQ.blockN ?_
      refine AQ.thenN ?_
      refine AW.region ?_
      refine AO.op (O.add rfl rfl rfl (by exact wI64 (by omega))) rfl rfl rfl ?_
      refine AO.op (O.move rfl rfl) rfl rfl rfl ?_
      refine AO.nil ?_
      refine AQ.loopKN _ _ _ (by omega) (⟨k + 1, _, by omega, hst, rfl, rfl, rfl⟩) (by repeat (first | exact envNil | refine envCons rfl ?_)) (by repeat (first | exact envNil | refine envCons rfl ?_)) (by repeat (first | exact subPnil | refine subPcons 1 rfl ?_))
    · skip
      obtain rfl : k = ws.length := by omega
      rw [List.take_length] at hM
      refine AW.exit ?_
      refine AQ.thenX ?_
      refine AQ.loopX ?_
      refine AQ.blockX rfl ?_
      refine AQ.thenN ?_
      refine AW.seq ?_
      refine AW.region ?_
      refine AO.op (O.move rfl rfl) rfl rfl rfl ?_
      refine AO.opB (O.call rfl Try.func13 rfl rfl rfl (Dk.new_fn _)) rfl rfl rfl ?_
      intro B4
      refine AO.op (O.assign rfl rfl) rfl rfl rfl ?_
      refine AO.nil ?_
      refine AQ.thenN ?_
      refine AW.seq ?_
      refine AW.block ?_
      refine AW.loopK [(6, _), (9, _)] (fun nn E H => ∃ (kk : Nat) (vs : List Watch) (M2 : Ents), (kk ≤ told.length) ∧ (Num vs) ∧ (M2.Perm (entW vs)) ∧ nn = told.length - kk ∧ E = [(5, roW vs)] ∧ H = [deck B4 told kk, mapW B2 M2]) _ (⟨0, ws, M, by omega, hnum, hM, rfl, rfl, rfl⟩) (by repeat (first | exact envNil | refine envCons rfl ?_)) (by repeat (first | exact envNil | refine envCons rfl ?_)) (by repeat (first | exact subPnil | refine subPcons 0 rfl ?_)) ?_
      rintro nn E H ⟨kk, vs, M2, hkk, hv, hM2, rfl, rfl, rfl⟩
      dsimp only [List.cons_append, List.nil_append]
      have hsh : Short vs := hv.small.short
      have hsq : SeqOk vs := hv.seqOk
      have hvl : vs.length ≤ 16 := hv.v.len
      have hM2l := ent_len hM2
      refine AW.seq ?_
      refine AW.seq ?_
      refine AW.region ?_
      refine AO.op (O.move rfl rfl) rfl rfl rfl ?_
      (refine AO.callM1 (i := 0) rfl rfl Try.func33 rfl rfl rfl rfl rfl rfl (left_fn _ _ _) (by (dsimp only [List.set, List.append, List.cons_append, List.nil_append, splice, ofConst, AV.cells, List.map, List.map_cons, List.map_nil, List.take, List.drop, Nat.zero_add, Nat.add_zero, Nat.reduceAdd, Nat.reduceMul, Nat.zero_mul, Value.cells, List.toList_toArray, zerosA, List.replicate, List.flatten, List.append_nil]; done)) ?_)
      refine AO.nil ?_
      refine AQ.thenN ?_
      refine AW.split rfl (fun hleft => ?_) (fun hleft => ?_) <;> (try simp only [decide_eq_true_eq, decide_eq_false_iff_not, beq_iff_eq, beq_eq_false_iff_ne, bne_iff_ne, bne_eq_false_iff_eq, Bool.not_eq_true', Bool.not_eq_false', Bool.not_eq_true, Bool.not_eq_false, ne_eq, Int.not_lt, Int.not_le, Bool.and_eq_true, Bool.or_eq_true, Bool.or_eq_false_iff, Bool.and_eq_false_imp, strOf_toList, Decidable.not_not] at hleft)
      · skip
        have ha1 := adv_in hleft
        have ha2 := adv_ge told (adv told kk)
        have ha2' : adv told (adv told kk) ≤ told.length := adv_le' (adv_le' hkk)
        have hz1b := nxt_in told kk (n := 4) (by omega)
        have ha3 := adv_ge told (adv told (adv told kk))
        have ha3' : adv told (adv told (adv told kk)) ≤ told.length := adv_le' ha2'
        have ha4 := adv_ge told (adv told (adv told (adv told kk)))
        have ha4' : adv told (adv told (adv told (adv told kk))) ≤ told.length := adv_le' ha3'
        have hz2b := nxt_in told (adv told kk) (n := 8) (by omega)
        refine AW.skip ?_
        refine AQ.thenN ?_
        refine AW.block ?_
        refine AW.seq ?_
        refine AW.region ?_
        refine AO.op (O.move rfl rfl) rfl rfl rfl ?_
        (refine AO.callM1 (i := 0) rfl rfl Try.func25 rfl rfl rfl rfl rfl rfl (next_fn _ _ _ _ ht (by repeat (assumption)) (by omega) (by omega)) (by (dsimp only [List.set, List.append, List.cons_append, List.nil_append, splice, ofConst, AV.cells, List.map, List.map_cons, List.map_nil, List.take, List.drop, Nat.zero_add, Nat.add_zero, Nat.reduceAdd, Nat.reduceMul, Nat.zero_mul, Value.cells, List.toList_toArray, zerosA, List.replicate, List.flatten, List.append_nil]; done)) ?_)
        refine AO.op (O.conv rfl rfl wU8any) rfl rfl rfl ?_
        refine AO.op (O.assign rfl rfl) rfl rfl rfl ?_
        refine AO.nil ?_
        refine AQ.thenN ?_
        refine AW.seq ?_
        refine AW.seq ?_
        refine AW.region ?_
        refine AO.op (O.move rfl rfl) rfl rfl rfl ?_
        (refine AO.callM1 (i := 0) rfl rfl Try.func25 rfl rfl rfl rfl rfl rfl (next_fn _ _ _ _ ht (by repeat (first | assumption | refine adv_le' ?_)) (by omega) (by omega)) (by (dsimp only [List.set, List.append, List.cons_append, List.nil_append, splice, ofConst, AV.cells, List.map, List.map_cons, List.map_nil, List.take, List.drop, Nat.zero_add, Nat.add_zero, Nat.reduceAdd, Nat.reduceMul, Nat.zero_mul, Value.cells, List.toList_toArray, zerosA, List.replicate, List.flatten, List.append_nil]; done)) ?_)
        refine AO.nil ?_
        refine AQ.thenN ?_
        refine AW.block ?_
        refine AW.seq ?_
        refine AW.region ?_
        refine AO.op (O.eql rfl rfl rfl (by rfl)) rfl rfl rfl ?_
        refine AO.op (O.assign rfl rfl) rfl rfl rfl ?_
        refine AO.nil ?_
        refine AQ.thenN ?_
        refine AW.split rfl (fun h0 => ?_) (fun h0 => ?_) <;> (try simp only [decide_eq_true_eq, decide_eq_false_iff_not, beq_iff_eq, beq_eq_false_iff_ne, bne_iff_ne, bne_eq_false_iff_eq, Bool.not_eq_true', Bool.not_eq_false', Bool.not_eq_true, Bool.not_eq_false, ne_eq, Int.not_lt, Int.not_le, Bool.and_eq_true, Bool.or_eq_true, Bool.or_eq_false_iff, Bool.and_eq_false_imp, strOf_toList, Decidable.not_not] at h0)
        · skip
          refine AW.seq ?_
          refine AW.region ?_
          refine AO.op (O.move rfl rfl) rfl rfl rfl ?_
          (refine AO.callM1 (i := 0) rfl rfl Try.func25 rfl rfl rfl rfl rfl rfl (next_fn _ _ _ _ ht (by repeat (assumption)) (by omega) (by omega)) (by (dsimp only [List.set, List.append, List.cons_append, List.nil_append, splice, ofConst, AV.cells, List.map, List.map_cons, List.map_nil, List.take, List.drop, Nat.zero_add, Nat.add_zero, Nat.reduceAdd, Nat.reduceMul, Nat.zero_mul, Value.cells, List.toList_toArray, zerosA, List.replicate, List.flatten, List.append_nil]; done)) ?_)
          refine AO.op (O.assign rfl rfl) rfl rfl rfl ?_
          refine AO.nil ?_
          refine AQ.thenN ?_
          refine AW.seq ?_
          refine AW.region ?_
          refine AO.op (O.move rfl rfl) rfl rfl rfl ?_
          refine AO.op (O.move rfl rfl) rfl rfl rfl ?_
          refine AO.op (O.call rfl Try.func28 rfl rfl rfl (forget_fn _ hsh _)) rfl rfl rfl ?_
          refine AO.op (O.assign rfl rfl) rfl rfl rfl ?_
          refine AO.nil ?_
          refine AQ.thenN ?_
          refine AW.seq ?_
          refine AW.region ?_
          refine AO.op (O.move rfl rfl) rfl rfl rfl ?_
          refine AO.nil ?_
          refine AQ.thenN ?_
          refine AW.block ?_
          obtain ⟨p, hp⟩ : ∃ p, p = nxt told (adv told (adv told kk)) 5 := ⟨_, rfl⟩
          have hpb := nxt_in told (adv told (adv told kk)) (n := 5) (by omega)
          rw [← hp] at hpb
          rw [← hp]
          have hpi : In p := ⟨by omega, by omega⟩
          have hwp : (Lit.int .i64 p).wf = true := wfI64 hpi
          have hv' : Num (forgetW vs p) := hv.filter _
          have hval := hv'.valid
          refine AW.loopK [(5, _), (6, _), (9, _), (11, _)] (fun nn E H => ∃ (j : Nat) (M3 : Ents), (j ≤ 5) ∧ (M3.Perm (entW (forgetTo vs p j))) ∧ nn = 5 - j ∧ E = [(129, .val (.int .i64 (j : Int)))] ∧ H = [deck B4 told (adv told (adv told (adv told kk))), mapW B2 M3]) _ (⟨0, M2, by omega, by rw [forget0]; exact hM2, rfl, rfl, rfl⟩) (by repeat (first | exact envNil | refine envCons rfl ?_)) (by repeat (first | exact envNil | refine envCons rfl ?_)) (by repeat (first | exact subPnil | refine subPcons 0 rfl ?_)) ?_
          rintro nn E H ⟨j, M3, hj, hM3, rfl, rfl, rfl⟩
          dsimp only [List.cons_append, List.nil_append]
          refine AW.seq ?_
          refine AW.region ?_
          refine AO.op (O.lss rfl rfl rfl (by rfl)) rfl rfl rfl ?_
          refine AO.nil ?_
          refine AQ.thenN ?_
          refine AW.seq ?_
          refine AW.split rfl (fun hj5 => ?_) (fun hj5 => ?_) <;> (try simp only [decide_eq_true_eq, decide_eq_false_iff_not, beq_iff_eq, beq_eq_false_iff_ne, bne_iff_ne, bne_eq_false_iff_eq, Bool.not_eq_true', Bool.not_eq_false', Bool.not_eq_true, Bool.not_eq_false, ne_eq, Int.not_lt, Int.not_le, Bool.and_eq_true, Bool.or_eq_true, Bool.or_eq_false_iff, Bool.and_eq_false_imp, strOf_toList, Decidable.not_not] at hj5)
          · skip
            have hwj : (Lit.int .i64 (j : Int)).wf = true := wfI64 ⟨by omega, by omega⟩
            have hst := forget_step hv hpi (by omega) hM3
            refine AW.skip ?_
            refine AQ.thenN ?_
            refine AW.seq ?_
            refine AW.block ?_
            refine AW.seq ?_
            refine AW.region ?_
            refine AO.op (O.move rfl rfl) rfl rfl rfl ?_
            refine AO.op (O.assign rfl rfl) rfl rfl rfl ?_
            refine AO.nil ?_
            refine AQ.thenN ?_
            refine AW.region ?_
            refine AO.op (O.move rfl rfl) rfl rfl rfl ?_
            refine AO.op (O.move rfl rfl) rfl rfl rfl ?_
            refine AO.op (O.move rfl rfl) rfl rfl rfl ?_
            refine AO.op (O.build rfl rfl rfl (by rfl)) rfl rfl rfl ?_
            (refine AO.mapDel (i := 1) rfl rfl rfl rfl rfl rfl rfl rfl (by exact keyA2 (by assumption) (by assumption)) (by (dsimp only [List.set, List.append, List.cons_append, List.nil_append, splice, ofConst, AV.cells, List.map, List.map_cons, List.map_nil, List.take, List.drop, Nat.zero_add, Nat.add_zero, Nat.reduceAdd, Nat.reduceMul, Nat.zero_mul, Value.cells, List.toList_toArray, zerosA, List.replicate, List.flatten, List.append_nil]; done)) ?_)
            refine AO.nil ?_
            refine AQ.blockN ?_
            refine AQ.thenN ?_
            refine AW.region ?_
            refine AO.op (O.add rfl rfl rfl (by exact wI64 (by omega))) rfl rfl rfl ?_
            refine AO.op (O.move rfl rfl) rfl rfl rfl ?_
            refine AO.nil ?_
            refine AQ.loopKN _ _ _ (by omega) (⟨j + 1, _, by omega, hst, rfl, rfl, rfl⟩) (by repeat (first | exact envNil | refine envCons rfl ?_)) (by repeat (first | exact envNil | refine envCons rfl ?_)) (by repeat (first | exact subPnil | refine subPcons 0 rfl ?_))
          · skip
            obtain rfl : j = 5 := by omega
            rw [forget5 hv] at hM3
            have hM3l := ent_len hM3
            refine AW.exit ?_
            refine AQ.thenX ?_
            refine AQ.loopX ?_
            refine AQ.blockX rfl ?_
            refine AQ.blockN ?_
            refine AQ.thenN ?_
            refine AW.seq ?_
            refine AW.region ?_
            refine AO.op (O.move rfl rfl) rfl rfl rfl ?_
            refine AO.op (O.lenR rfl rfl) rfl rfl rfl ?_
            refine AO.op (O.move rfl rfl) rfl rfl rfl ?_
            refine AO.op (O.lenM rfl rfl (by repeat (first | exact List.Mem.head _ | refine List.Mem.tail _ ?_))) rfl rfl rfl ?_
            refine AO.op (O.neq rfl rfl rfl (by exact bne_eq_false_iff_eq.2 (by omega))) rfl rfl rfl ?_
            refine AO.op (O.move rfl rfl) rfl rfl rfl ?_
            refine AO.opG rfl rfl rfl (fun hp => O.move rfl rfl) ?_
            refine AO.opG rfl rfl rfl (fun hp => OpW.force 174 rfl (by exact hp) (O.call rfl Try.func15 rfl rfl rfl (valid_fn _))) ?_
            refine AO.opG rfl rfl rfl (fun hp => OpW.force 175 rfl (by exact hp) (O.not rfl rfl (by rfl))) ?_
            refine AO.op (O.pickOr rfl rfl rfl rfl (fun h => by exact congrArg (fun b => !b) h)) rfl rfl rfl ?_
            refine AO.nil ?_
            refine AQ.thenN ?_
            refine AW.split rfl (fun h177 => ?_) (fun h177 => ?_)
            · skip
              rw [hval] at h177; simp at h177
            · skip
              refine AW.skip ?_
              refine AQ.blockN ?_
              refine AQ.loopKN _ _ _ (by omega) (⟨_, forgetW vs p, M3, ha3', hv', hM3, rfl, rfl, rfl⟩) (by repeat (first | exact envNil | refine envCons rfl ?_)) (by repeat (first | exact envNil | refine envCons rfl ?_)) (by repeat (first | exact subPnil | refine subPcons 0 rfl ?_))
        · skip
          refine AW.seq ?_
          refine AW.region ?_
          refine AO.op (O.eql rfl rfl rfl (by rfl)) rfl rfl rfl ?_
          refine AO.op (O.assign rfl rfl) rfl rfl rfl ?_
          refine AO.nil ?_
          refine AQ.thenN ?_
          refine AW.split rfl (fun h1 => ?_) (fun h1 => ?_) <;> (try simp only [decide_eq_true_eq, decide_eq_false_iff_not, beq_iff_eq, beq_eq_false_iff_ne, bne_iff_ne, bne_eq_false_iff_eq, Bool.not_eq_true', Bool.not_eq_false', Bool.not_eq_true, Bool.not_eq_false, ne_eq, Int.not_lt, Int.not_le, Bool.and_eq_true, Bool.or_eq_true, Bool.or_eq_false_iff, Bool.and_eq_false_imp, strOf_toList, Decidable.not_not] at h1)
          · skip
            have hpb := nxt_in told (adv told (adv told kk)) (n := 5) (by omega)
            have hkb := nxt_in told (adv told (adv told (adv told kk))) (n := 5) (by omega)
            have hpi : In (nxt told (adv told (adv told kk)) 5) := ⟨by omega, by omega⟩
            have hwp : (Lit.int .i64 (nxt told (adv told (adv told kk)) 5)).wf = true := wfI64 hpi
            have hwk : (Lit.int .i64 (nxt told (adv told (adv told (adv told kk))) 5)).wf = true := wfI64 ⟨by omega, by omega⟩
            have hM3 := cancel_del hv hpi hkb hM2
            have hhas := cancel_has hv hpi hkb hM2
            have hv' : Num (cancelW vs (nxt told (adv told (adv told kk)) 5) [u8 (nxt told (adv told (adv told (adv told kk))) 5)]) := hv.filter _
            have hval := hv'.valid
            have hM3l := ent_len hM3
            refine AW.seq ?_
            refine AW.region ?_
            refine AO.op (O.move rfl rfl) rfl rfl rfl ?_
            (refine AO.callM1 (i := 0) rfl rfl Try.func25 rfl rfl rfl rfl rfl rfl (next_fn _ _ _ _ ht (by repeat (assumption)) (by omega) (by omega)) (by (dsimp only [List.set, List.append, List.cons_append, List.nil_append, splice, ofConst, AV.cells, List.map, List.map_cons, List.map_nil, List.take, List.drop, Nat.zero_add, Nat.add_zero, Nat.reduceAdd, Nat.reduceMul, Nat.zero_mul, Value.cells, List.toList_toArray, zerosA, List.replicate, List.flatten, List.append_nil]; done)) ?_)
            refine AO.op (O.move rfl rfl) rfl rfl rfl ?_
            (refine AO.callM1 (i := 0) rfl rfl Try.func25 rfl rfl rfl rfl rfl rfl (next_fn _ _ _ _ ht (by repeat (assumption)) (by omega) (by omega)) (by (dsimp only [List.set, List.append, List.cons_append, List.nil_append, splice, ofConst, AV.cells, List.map, List.map_cons, List.map_nil, List.take, List.drop, Nat.zero_add, Nat.add_zero, Nat.reduceAdd, Nat.reduceMul, Nat.zero_mul, Value.cells, List.toList_toArray, zerosA, List.replicate, List.flatten, List.append_nil]; done)) ?_)
            refine AO.op (O.assign rfl rfl) rfl rfl rfl ?_
            refine AO.op (O.assign rfl rfl) rfl rfl rfl ?_
            refine AO.nil ?_
            refine AQ.thenN ?_
            refine AW.seq ?_
            refine AW.region ?_
            refine AO.op (O.move rfl rfl) rfl rfl rfl ?_
            refine AO.op (O.move rfl rfl) rfl rfl rfl ?_
            refine AO.op (O.move rfl rfl) rfl rfl rfl ?_
            refine AO.op (O.conv rfl rfl wU8any) rfl rfl rfl ?_
            refine AO.opB (O.buildSlice rfl rfl rfl (by rfl) (by rfl) (by rfl) (by rfl)) rfl rfl rfl ?_
            intro B5
            refine AO.g ?_
            (refine G.freezeSl 0 148 rfl rfl ⟨Nat.le_refl _, by unfold maxLen; omega⟩ ?_)
            refine G.unfull 148 rfl ?_
            refine AO.u ?_
            dsimp only [List.eraseIdx]
            refine AO.op (O.call rfl Try.func26 rfl rfl rfl (cancel_fn _ hsh _ [u8 (nxt told (adv told (adv told (adv told kk))) 5)])) rfl rfl rfl ?_
            refine AO.op (O.move rfl rfl) rfl rfl rfl ?_
            refine AO.op (O.extract rfl rfl rfl) rfl rfl rfl ?_
            refine AO.op (O.extract rfl rfl rfl) rfl rfl rfl ?_
            refine AO.op (O.assign rfl rfl) rfl rfl rfl ?_
            refine AO.op (O.assign rfl rfl) rfl rfl rfl ?_
            refine AO.nil ?_
            refine AQ.thenN ?_
            refine AW.seq ?_
            refine AW.seq ?_
            refine AW.region ?_
            refine AO.op (O.move rfl rfl) rfl rfl rfl ?_
            refine AO.op (O.move rfl rfl) rfl rfl rfl ?_
            refine AO.op (O.move rfl rfl) rfl rfl rfl ?_
            refine AO.op (O.build rfl rfl rfl (by rfl)) rfl rfl rfl ?_
            refine AO.op (O.lookOkI rfl rfl rfl (by repeat (first | exact List.Mem.head _ | refine List.Mem.tail _ ?_)) (by exact keyA2 (by assumption) (by assumption))) rfl rfl rfl ?_
            refine AO.op (O.move rfl rfl) rfl rfl rfl ?_
            refine AO.op (O.extract rfl rfl rfl) rfl rfl rfl ?_
            refine AO.op (O.extract rfl rfl rfl) rfl rfl rfl ?_
            refine AO.op (O.assign rfl rfl) rfl rfl rfl ?_
            refine AO.op (O.assign rfl rfl) rfl rfl rfl ?_
            refine AO.nil ?_
            refine AQ.thenN ?_
            refine AW.seq ?_
            refine AW.region ?_
            refine AO.op (O.move rfl rfl) rfl rfl rfl ?_
            refine AO.op (O.move rfl rfl) rfl rfl rfl ?_
            refine AO.op (O.neqB rfl rfl rfl (by rfl)) rfl rfl rfl ?_
            refine AO.nil ?_
            refine AQ.thenN ?_
            refine AW.split rfl (fun h162 => ?_) (fun h162 => ?_)
            · skip
              rw [hhas] at h162; simp at h162
            · skip
              refine AW.skip ?_
              refine AQ.thenN ?_
              refine AW.seq ?_
              refine AW.region ?_
              refine AO.op (O.move rfl rfl) rfl rfl rfl ?_
              refine AO.op (O.assign rfl rfl) rfl rfl rfl ?_
              refine AO.nil ?_
              refine AQ.thenN ?_
              refine AW.region ?_
              refine AO.op (O.move rfl rfl) rfl rfl rfl ?_
              refine AO.op (O.move rfl rfl) rfl rfl rfl ?_
              refine AO.op (O.move rfl rfl) rfl rfl rfl ?_
              refine AO.op (O.build rfl rfl rfl (by rfl)) rfl rfl rfl ?_
              (refine AO.mapDel (i := 1) rfl rfl rfl rfl rfl rfl rfl rfl (by exact keyA2 (by assumption) (by assumption)) (by (dsimp only [List.set, List.append, List.cons_append, List.nil_append, splice, ofConst, AV.cells, List.map, List.map_cons, List.map_nil, List.take, List.drop, Nat.zero_add, Nat.add_zero, Nat.reduceAdd, Nat.reduceMul, Nat.zero_mul, Value.cells, List.toList_toArray, zerosA, List.replicate, List.flatten, List.append_nil]; done)) ?_)
              refine AO.nil ?_
              refine AQ.blockN ?_
              refine AQ.thenN ?_
              refine AW.seq ?_
              refine AW.region ?_
              refine AO.op (O.move rfl rfl) rfl rfl rfl ?_
              refine AO.op (O.lenR rfl rfl) rfl rfl rfl ?_
              refine AO.op (O.move rfl rfl) rfl rfl rfl ?_
              refine AO.op (O.lenM rfl rfl (by repeat (first | exact List.Mem.head _ | refine List.Mem.tail _ ?_))) rfl rfl rfl ?_
              refine AO.op (O.neq rfl rfl rfl (by exact bne_eq_false_iff_eq.2 (by omega))) rfl rfl rfl ?_
              refine AO.op (O.move rfl rfl) rfl rfl rfl ?_
              refine AO.opG rfl rfl rfl (fun hp => O.move rfl rfl) ?_
              refine AO.opG rfl rfl rfl (fun hp => OpW.force 174 rfl (by exact hp) (O.call rfl Try.func15 rfl rfl rfl (valid_fn _))) ?_
              refine AO.opG rfl rfl rfl (fun hp => OpW.force 175 rfl (by exact hp) (O.not rfl rfl (by rfl))) ?_
              refine AO.op (O.pickOr rfl rfl rfl rfl (fun h => by exact congrArg (fun b => !b) h)) rfl rfl rfl ?_
              refine AO.nil ?_
              refine AQ.thenN ?_
              refine AW.split rfl (fun h177 => ?_) (fun h177 => ?_)
              · skip
                rw [hval] at h177; simp at h177
              · skip
                refine AW.skip ?_
                refine AQ.blockN ?_
                refine AQ.loopKN _ _ _ (by omega) (⟨_, _, _, ha4', hv', hM3, rfl, rfl, rfl⟩) (by repeat (first | exact envNil | refine envCons rfl ?_)) (by repeat (first | exact envNil | refine envCons rfl ?_)) (by repeat (first | exact subPnil | refine subPcons 0 rfl ?_))
          · skip
            obtain ⟨T, hT⟩ : ∃ T, T = toldW vs [u8 (nxt told kk 4)] := ⟨_, rfl⟩
            obtain ⟨key, hkey⟩ : ∃ key, key = [u8 (nxt told kk 4)] := ⟨_, rfl⟩
            have hv' : Num (notW vs [u8 (nxt told kk 4)]) := hv.tell _
            have hval := hv'.valid
            have hTl : T.length ≤ vs.length := by
              rw [hT, told_eq, List.length_map]; exact List.length_filter_le _ _
            refine AW.seq ?_
            refine AW.region ?_
            refine AO.op (O.move rfl rfl) rfl rfl rfl ?_
            refine AO.op (O.move rfl rfl) rfl rfl rfl ?_
            refine AO.opB (O.buildSlice rfl rfl rfl (by rfl) (by rfl) (by rfl) (by rfl)) rfl rfl rfl ?_
            intro B6
            refine AO.g ?_
            (refine G.freezeSl 0 64 rfl rfl ⟨Nat.le_refl _, by unfold maxLen; omega⟩ ?_)
            refine G.unfull 64 rfl ?_
            refine AO.u ?_
            dsimp only [List.eraseIdx]
            refine AO.op (O.call rfl Try.func30 rfl rfl rfl (notify_fn _ hsh hsq [u8 (nxt told kk 4)])) rfl rfl rfl ?_
            refine AO.op (O.move rfl rfl) rfl rfl rfl ?_
            refine AO.op (O.extract rfl rfl rfl) rfl rfl rfl ?_
            refine AO.op (O.extract rfl rfl rfl) rfl rfl rfl ?_
            refine AO.op (O.assign rfl rfl) rfl rfl rfl ?_
            refine AO.op (O.assign rfl rfl) rfl rfl rfl ?_
            refine AO.nil ?_
            refine AQ.thenN ?_
            refine AW.seq ?_
            refine AW.seq ?_
            refine AW.region ?_
            refine AO.op (O.move rfl rfl) rfl rfl rfl ?_
            refine AO.op (O.lenR rfl rfl) rfl rfl rfl ?_
            refine AO.op (O.move rfl rfl) rfl rfl rfl ?_
            refine AO.nil ?_
            refine AQ.thenN ?_
            refine AW.block ?_
            rw [← hT]
            rw [← hkey] at hT
            refine AW.loopK [(6, _), (9, _), (10, _), (19, _), (68, _), (69, _)] (fun nn E H => ∃ (j : Nat) (M3 : Ents), (j ≤ T.length) ∧ (M3.Perm (entW (mixW vs key j))) ∧ nn = T.length - j ∧ E = [(70, .val (.int .i64 (j : Int)))] ∧ H = [deck B4 told (adv told (adv told kk)), mapW B2 M3]) _ (⟨0, M2, by omega, hM2.trans ((mix0 vs key).symm.map _), rfl, rfl, rfl⟩) (by repeat (first | exact envNil | refine envCons rfl ?_)) (by repeat (first | exact envNil | refine envCons rfl ?_)) (by repeat (first | exact subPnil | refine subPcons 0 rfl ?_)) ?_
            rintro nn E H ⟨j, M3, hj, hM3, rfl, rfl, rfl⟩
            dsimp only [List.cons_append, List.nil_append]
            have hM3l := ent_len hM3
            rw [mix_len] at hM3l
            refine AW.seq ?_
            refine AW.region ?_
            refine AO.op (O.lss rfl rfl rfl (by rfl)) rfl rfl rfl ?_
            refine AO.nil ?_
            refine AQ.thenN ?_
            refine AW.seq ?_
            refine AW.split rfl (fun hjt => ?_) (fun hjt => ?_) <;> (try simp only [decide_eq_true_eq, decide_eq_false_iff_not, beq_iff_eq, beq_eq_false_iff_ne, bne_iff_ne, bne_eq_false_iff_eq, Bool.not_eq_true', Bool.not_eq_false', Bool.not_eq_true, Bool.not_eq_false, ne_eq, Int.not_lt, Int.not_le, Bool.and_eq_true, Bool.or_eq_true, Bool.or_eq_false_iff, Bool.and_eq_false_imp, strOf_toList, Decidable.not_not] at hjt)
            · skip
              have hjt' : j < T.length := by omega
              have hgw := getW hjt'
              have hjt2 := hjt'
              rw [hT] at hjt2
              obtain ⟨hw, hjh⟩ := wat_told hjt2
              rw [← hT] at hw
              obtain ⟨hvm, hvk⟩ := hit_at hjh
              have hst := mix_step hv hjh hM3
              obtain ⟨v, hvd⟩ : ∃ v, v = wat (hitW vs key) j := ⟨_, rfl⟩
              rw [← hvd] at hw hvm hvk hst
              obtain ⟨t, ky, ht1, hk1, ht5⟩ := hv.one v hvm
              have hbd := sound_bd (hv.v.sound v hvm)
              have htell : tell key v = { v with seq := nextS v.seq } := if_pos (by rw [hvk]; exact beq_self_eq_true _)
              rw [hw, htell] at hgw
              rw [kW_of ht1, htell] at hst
              simp only [ht1, hvk] at hgw
              rw [hkey] at hgw
              have hwp : (Lit.int .i64 v.peer).wf = true := wfI64 ⟨by omega, by omega⟩
              have hwt : (Lit.int .i64 (t.toNat : Int)).wf = true := wfI64 ⟨by omega, by omega⟩
              have hs0 : mInt (mGet M3 (key2 v.peer (t.toNat : Int)) (.int .i64 0)) = v.seq := by rw [hst.2.1]; rfl
              refine AW.skip ?_
              refine AQ.thenN ?_
              refine AW.seq ?_
              refine AW.block ?_
              refine AW.seq ?_
              refine AW.region ?_
              refine AO.op (O.idxR rfl rfl rfl ⟨(by omega), (by omega)⟩) rfl rfl rfl ?_
              refine AO.op (O.loadRK rfl rfl (by exact hgw) (by rfl)) rfl rfl rfl ?_
              refine AO.opB (O.alloc rfl (by (dsimp only [List.set, List.append, List.cons_append, List.nil_append, splice, ofConst, AV.cells, List.map, List.map_cons, List.map_nil, List.take, List.drop, Nat.zero_add, Nat.add_zero, Nat.reduceAdd, Nat.reduceMul, Nat.zero_mul, Value.cells, List.toList_toArray, zerosA, List.replicate, List.flatten, List.append_nil]; done)) (by rfl)) rfl rfl rfl ?_
              intro B7
              (refine AO.store (i := 0) rfl rfl rfl rfl rfl rfl (by rfl) (by rfl) (by rfl) (by (dsimp only [List.set, List.append, List.cons_append, List.nil_append, splice, ofConst, AV.cells, List.map, List.map_cons, List.map_nil, List.take, List.drop, Nat.zero_add, Nat.add_zero, Nat.reduceAdd, Nat.reduceMul, Nat.zero_mul, Value.cells, List.toList_toArray, zerosA, List.replicate, List.flatten, List.append_nil]; done)) (by (dsimp only [List.set, List.append, List.cons_append, List.nil_append, splice, ofConst, AV.cells, List.map, List.map_cons, List.map_nil, List.take, List.drop, Nat.zero_add, Nat.add_zero, Nat.reduceAdd, Nat.reduceMul, Nat.zero_mul, Value.cells, List.toList_toArray, zerosA, List.replicate, List.flatten, List.append_nil]; done)) ?_)
              refine AO.nil ?_
              refine AQ.thenN ?_
              refine AW.seq ?_
              refine AW.seq ?_
              refine AW.region ?_
              refine AO.op (O.fieldAddr rfl rfl) rfl rfl rfl ?_
              refine AO.op (O.load rfl rfl (by repeat (exact List.Mem.head _)) (by rfl)) rfl rfl rfl ?_
              refine AO.op (O.lenR rfl rfl) rfl rfl rfl ?_
              refine AO.op (O.neq rfl rfl rfl (by rfl)) rfl rfl rfl ?_
              refine AO.op (O.move rfl rfl) rfl rfl rfl ?_
              refine AO.opG rfl rfl rfl (fun hp => O.fieldAddr rfl rfl) ?_
              refine AO.opG rfl rfl rfl (fun hp => OpW.force 79 rfl (by exact hp) (O.load rfl rfl (by repeat (exact List.Mem.head _)) (by rfl))) ?_
              refine AO.opG rfl rfl rfl (fun hp => OpW.force 80 rfl (by exact hp) (O.lenR rfl rfl)) ?_
              refine AO.opG rfl rfl rfl (fun hp => OpW.force 81 rfl (by exact hp) (O.neq rfl rfl rfl (by rfl))) ?_
              refine AO.op (O.pickOr rfl rfl rfl rfl (fun h => by exact congrArg (fun b => !b) h)) rfl rfl rfl ?_
              refine AO.op (O.move rfl rfl) rfl rfl rfl ?_
              refine AO.opG rfl rfl rfl (fun hp => O.fieldAddr rfl rfl) ?_
              refine AO.opG rfl rfl rfl (fun hp => OpW.force 85 rfl (by exact hp) (O.load rfl rfl (by repeat (exact List.Mem.head _)) (by rfl))) ?_
              (refine AO.opG rfl rfl rfl (fun hp => OpW.force 86 rfl (by exact hp) (O.idxR rfl rfl rfl ⟨(by omega), (by (simp only [List.length_take, List.length_drop, List.length_append, List.length_cons, List.length_nil, List.length_set, Nat.zero_add]; omega))⟩)) ?_)
              refine AO.opG rfl rfl rfl (fun hp => OpW.force 87 rfl (by exact hp) (O.loadR rfl rfl (by rfl))) ?_
              refine AO.opG rfl rfl rfl (fun hp => O.move rfl rfl) ?_
              refine AO.opG rfl rfl rfl (fun hp => OpW.force 88 rfl (by exact hp) (OpW.force 89 rfl (by exact hp) (O.neq rfl rfl rfl (by exact bne_eq_false_iff_eq.2 (by omega))))) ?_
              refine AO.op (O.pickOr rfl rfl rfl rfl (fun h => by exact congrArg (fun b => !b) h)) rfl rfl rfl ?_
              refine AO.nil ?_
              refine AQ.thenN ?_
              refine AW.split rfl (fun h91 => ?_) (fun h91 => ?_)
              · skip
                simp at h91
              · skip
                have hnb := nextS_bd hbd.2
                have hwq : (Lit.int .i64 (nextS v.seq)).wf = true := wfI64 ⟨by omega, by omega⟩
                have hmb : (mInt (mGet M3 (key2 v.peer (t.toNat : Int)) (.int .i64 0)) + 1).tmod 16777216 = nextS v.seq := by rw [hs0]; rfl
                refine AW.skip ?_
                refine AQ.thenN ?_
                refine AW.seq ?_
                refine AW.regionD 9 (by kernel_rfl) (by kernel_rfl) ?_
                simp only [List.take_succ_cons, List.take_zero, List.drop_succ_cons, List.drop_zero]
                refine FA.op (O.fieldAddr rfl rfl) rfl rfl rfl rfl ?_
                refine FA.op (O.load rfl rfl (by repeat (exact List.Mem.head _)) (by rfl)) rfl rfl rfl rfl ?_
                refine FA.op (O.fieldAddr rfl rfl) rfl rfl rfl rfl ?_
                refine FA.op (O.load rfl rfl (by repeat (exact List.Mem.head _)) (by rfl)) rfl rfl rfl rfl ?_
                (refine FA.op (O.idxR rfl rfl rfl ⟨(by omega), (by (simp only [List.length_take, List.length_drop, List.length_append, List.length_cons, List.length_nil, List.length_set, Nat.zero_add]; omega))⟩) rfl rfl rfl rfl ?_)
                refine FA.op (O.loadR rfl rfl (by rfl)) rfl rfl rfl rfl ?_
                refine FA.op (O.conv rfl rfl (by exact wI64 (by omega))) rfl rfl rfl rfl ?_
                refine FA.op (O.build rfl rfl rfl (by rfl)) rfl rfl rfl rfl ?_
                refine FA.opN (O.alloc rfl (by (dsimp only [List.set, List.append, List.cons_append, List.nil_append, splice, ofConst, AV.cells, List.map, List.map_cons, List.map_nil, List.take, List.drop, Nat.zero_add, Nat.add_zero, Nat.reduceAdd, Nat.reduceMul, Nat.zero_mul, Value.cells, List.toList_toArray, zerosA, List.replicate, List.flatten, List.append_nil]; done)) (by rfl)) rfl rfl rfl rfl ?_
                refine FA.nil ?_
                simp only [chosen, List.nil_append, List.cons_append, List.append_nil]
                rintro _ _ ⟨B8, rfl, rfl⟩
                simp only [List.cons_append, List.nil_append]
                (refine AO.store (i := 0) rfl rfl rfl rfl rfl rfl (by rfl) (by rfl) (by rfl) (by (dsimp only [List.set, List.append, List.cons_append, List.nil_append, splice, ofConst, AV.cells, List.map, List.map_cons, List.map_nil, List.take, List.drop, Nat.zero_add, Nat.add_zero, Nat.reduceAdd, Nat.reduceMul, Nat.zero_mul, Value.cells, List.toList_toArray, zerosA, List.replicate, List.flatten, List.append_nil]; done)) (by (dsimp only [List.set, List.append, List.cons_append, List.nil_append, splice, ofConst, AV.cells, List.map, List.map_cons, List.map_nil, List.take, List.drop, Nat.zero_add, Nat.add_zero, Nat.reduceAdd, Nat.reduceMul, Nat.zero_mul, Value.cells, List.toList_toArray, zerosA, List.replicate, List.flatten, List.append_nil]; done)) ?_)
                refine AO.nil ?_
                refine AQ.thenN ?_
                refine AW.seq ?_
                refine AW.region ?_
                refine AO.op (O.move rfl rfl) rfl rfl rfl ?_
                refine AO.op (O.loadK rfl rfl (by repeat (exact List.Mem.head _)) (by rfl) (by rfl)) rfl rfl rfl ?_
                refine AO.op (O.lookOkI rfl rfl rfl (by repeat (first | exact List.Mem.head _ | refine List.Mem.tail _ ?_)) (by exact keyA2 (by assumption) (by assumption))) rfl rfl rfl ?_
                refine AO.op (O.move rfl rfl) rfl rfl rfl ?_
                refine AO.op (O.extract rfl rfl rfl) rfl rfl rfl ?_
                refine AO.op (O.extract rfl rfl rfl) rfl rfl rfl ?_
                refine AO.op (O.assign rfl rfl) rfl rfl rfl ?_
                refine AO.op (O.assign rfl rfl) rfl rfl rfl ?_
                refine AO.nil ?_
                refine AQ.thenN ?_
                refine AW.seq ?_
                refine AW.seq ?_
                refine AW.region ?_
                refine AO.op (O.move rfl rfl) rfl rfl rfl ?_
                refine AO.op (O.not rfl rfl (by rfl)) rfl rfl rfl ?_
                refine AO.op (O.move rfl rfl) rfl rfl rfl ?_
                refine AO.opG rfl rfl rfl (fun hp => O.fieldAddr rfl rfl) ?_
                refine AO.opG rfl rfl rfl (fun hp => OpW.force 109 rfl (by exact hp) (O.load rfl rfl (by repeat (first | exact List.Mem.head _ | refine List.Mem.tail _ ?_)) (by rfl))) ?_
                refine AO.opG rfl rfl rfl (fun hp => O.move rfl rfl) ?_
                refine AO.opG rfl rfl rfl (fun hp => OpW.force 111 rfl (by exact hp) (O.add rfl rfl rfl (by exact wI64 (by omega)))) ?_
                refine AO.opG rfl rfl rfl (fun hp => OpW.force 112 rfl (by exact hp) (O.rem rfl rfl rfl (by omega) rfl)) ?_
                refine AO.opG rfl rfl rfl (fun hp => OpW.force 110 rfl (by exact hp) (OpW.force 113 rfl (by exact hp) (O.neq rfl rfl rfl (by exact bne_eq_false_iff_eq.2 (by omega))))) ?_
                refine AO.op (O.pickOr rfl rfl rfl rfl (fun h => by exact congrArg (fun b => !b) h)) rfl rfl rfl ?_
                refine AO.nil ?_
                refine AQ.thenN ?_
                refine AW.split rfl (fun h115 => ?_) (fun h115 => ?_)
                · skip
                  rw [hst.1] at h115; simp at h115
                · skip
                  refine AW.skip ?_
                  refine AQ.thenN ?_
                  refine AW.region ?_
                  refine AO.op (O.move rfl rfl) rfl rfl rfl ?_
                  refine AO.op (O.loadK rfl rfl (by repeat (exact List.Mem.head _)) (by rfl) (by rfl)) rfl rfl rfl ?_
                  refine AO.op (O.fieldAddr rfl rfl) rfl rfl rfl ?_
                  refine AO.op (O.load rfl rfl (by repeat (first | exact List.Mem.head _ | refine List.Mem.tail _ ?_)) (by rfl)) rfl rfl rfl ?_
                  (refine AO.mapPut (i := 3) rfl rfl rfl rfl rfl rfl rfl (by exact keyA2 (by assumption) (by assumption)) (by exact plainElem_int TyD.ax (by exact wfI64 ⟨by omega, by omega⟩)) (by ( unfold maxLen; omega)) (by (dsimp only [List.set, List.append, List.cons_append, List.nil_append, splice, ofConst, AV.cells, List.map, List.map_cons, List.map_nil, List.take, List.drop, Nat.zero_add, Nat.add_zero, Nat.reduceAdd, Nat.reduceMul, Nat.zero_mul, Value.cells, List.toList_toArray, zerosA, List.replicate, List.flatten, List.append_nil]; done)) ?_)
                  refine AO.nil ?_
                  refine AQ.blockN ?_
                  refine AQ.thenN ?_
                  refine AW.region ?_
                  refine AO.op (O.add rfl rfl rfl (by exact wI64 (by omega))) rfl rfl rfl ?_
                  refine AO.op (O.move rfl rfl) rfl rfl rfl ?_
                  refine AO.nil ?_
                  refine AQ.loopKN _ _ _ (by omega) (⟨j + 1, _, by omega, hst.2.2, rfl, rfl, rfl⟩) (by repeat (first | exact envNil | refine envCons rfl ?_)) (by repeat (first | exact envNil | refine envCons rfl ?_)) (by repeat (first | exact subPnil | refine subPcons 2 rfl ?_))
            · skip
              obtain rfl : j = T.length := by omega
              have hM4 : M3.Perm (entW (notW vs key)) := hM3.trans (by rw [hT]; exact (mix_all vs key).map _)
              rw [hkey] at hM4
              have hM4l := ent_len hM4
              refine AW.exit ?_
              refine AQ.thenX ?_
              refine AQ.loopX ?_
              refine AQ.blockX rfl ?_
              refine AQ.thenN ?_
              refine AW.region ?_
              refine AO.op (O.move rfl rfl) rfl rfl rfl ?_
              refine AO.op (O.assign rfl rfl) rfl rfl rfl ?_
              refine AO.nil ?_
              refine AQ.blockN ?_
              refine AQ.thenN ?_
              refine AW.seq ?_
              refine AW.region ?_
              refine AO.op (O.move rfl rfl) rfl rfl rfl ?_
              refine AO.op (O.lenR rfl rfl) rfl rfl rfl ?_
              refine AO.op (O.move rfl rfl) rfl rfl rfl ?_
              refine AO.op (O.lenM rfl rfl (by repeat (first | exact List.Mem.head _ | refine List.Mem.tail _ ?_))) rfl rfl rfl ?_
              refine AO.op (O.neq rfl rfl rfl (by exact bne_eq_false_iff_eq.2 (by omega))) rfl rfl rfl ?_
              refine AO.op (O.move rfl rfl) rfl rfl rfl ?_
              refine AO.opG rfl rfl rfl (fun hp => O.move rfl rfl) ?_
              refine AO.opG rfl rfl rfl (fun hp => OpW.force 174 rfl (by exact hp) (O.call rfl Try.func15 rfl rfl rfl (valid_fn _))) ?_
              refine AO.opG rfl rfl rfl (fun hp => OpW.force 175 rfl (by exact hp) (O.not rfl rfl (by rfl))) ?_
              refine AO.op (O.pickOr rfl rfl rfl rfl (fun h => by exact congrArg (fun b => !b) h)) rfl rfl rfl ?_
              refine AO.nil ?_
              refine AQ.thenN ?_
              refine AW.split rfl (fun h177 => ?_) (fun h177 => ?_)
              · skip
                rw [hval] at h177; simp at h177
              · skip
                refine AW.skip ?_
                refine AQ.blockN ?_
                refine AQ.loopKN _ _ _ (by omega) (⟨_, _, M3, ha2', hv', hM4, rfl, rfl, rfl⟩) (by repeat (first | exact envNil | refine envCons rfl ?_)) (by repeat (first | exact envNil | refine envCons rfl ?_)) (by repeat (first | exact subPnil | refine subPcons 0 rfl ?_))
      · skip
        refine AW.exit ?_
        refine AQ.thenX ?_
        refine AQ.loopX ?_
        refine AQ.blockX rfl ?_
        refine AQ.thenN ?_
        refine AW.seq ?_
        refine AW.region ?_
        refine AO.op (O.call rfl Try.func11 rfl rfl rfl (awake_fn)) rfl rfl rfl ?_
        refine AO.op (O.assign rfl rfl) rfl rfl rfl ?_
        refine AO.nil ?_
        refine AQ.thenN ?_
        refine AW.ret ?_
        refine AQ.ret1 rfl rfl ⟨_, List.nil_sublist _, .nil⟩ (⟨rfl, rfl⟩)
end Go.Proofs.Ytlcoanbdaephiaa.Ob

namespace Go.Proofs.Ytlcoanbdaephiaa.A
open Go.ChangeShapes Go.WideShapes Go.ChangeAt Go.RowKit Go.Deep L
set_option linter.unusedVariables false
set_option linter.unusedSimpArgs false

theorem own : ownKnob Try.prog.godebug = none := by kernel_rfl
theorem kids : Kids Try.prog (· < Try.prog.types.size) := kids_rows (by kernel_rfl) (by kernel_rfl)
theorem full : ∀ t e, t < Try.prog.types.size → Try.prog.underlying t = some (.slice e) → 0 < Try.prog.cellsOf e := slices_full_of Try.prog (by kernel_rfl)

theorem sameAt_ext {W W' : World} (h : Ext W W') (p : MemPlace) (hp : p.block < W.heap.size) : W.sameAt W' p := by
  have hb : W'.heap[p.block]? = W.heap[p.block]? := h.block _ hp (fun hh => hh)
  cases p with
  | cell b off => exact World.cell?_of_block (w := W) (a := ⟨b, off, none⟩) hb
  | map b => exact hb

section
variable {H : Type} {enc : TypeId × Value → H}
theorem trodAll_carry {P : Program} {W W' : World} {base : Nat} {spare : Nat → Bool} {held : Bool} : ∀ {ts : List TypeId} {vs : List Value} {ds : List (DataW H)} {ps : List MemPlace},
    DataW.TrodAll enc P W base spare held ts vs ds ps → (∀ p ∈ ps, W.sameAt W' p) → DataW.TrodAll enc P W' base spare held ts vs ds ps
  | [], [], [], _, h, _ => h
  | _ :: _, _ :: _, _ :: _, _, ⟨p, q, ⟨n, h1⟩, h2, e⟩, hs => ⟨p, q, ⟨n, DataW.trod_carry n _ _ _ h1 (fun x hx => hs x (by rw [e]; exact List.mem_append_left _ hx))⟩, trodAll_carry h2 (fun x hx => hs x (by rw [e]; exact List.mem_append_right _ hx)), e⟩

/-- A law: it returned true, and nothing that was there has turned. -/
theorem lawPost {fn : Func} {s : ChangeSpec} {W W' : World} {args : Array Value} {ds gs : List (DataW H)} {before : List MemPlace} {bt : TypeId}
    (hW : DataW.Whole enc Try.prog fn.params.toList s.vars false W args.toList ds gs before) (hv : s.vars = []) (hfn : s.fn H (ds ++ gs) = { results := [.lit (.bool true)], args := ds }) (hres : fn.resultTypes = #[bt]) (hbt : Try.prog.underlying bt = some .bool)
    (hpar : ∀ t ∈ fn.params.toList, t < Try.prog.types.size) (hE : Ext W W') : s.post enc Try.prog fn false true false false W args (.bool true) W' := by
  have hold : ∀ p ∈ before, (fun b => decide (b < W.heap.size)) p.block = true := fun p hp => by simpa using hW.lt p hp
  have hlt := hW.lt
  have hW' := hW
  obtain ⟨pa, pv, hA, hV, rfl, hz, hn⟩ := hW
  rw [hv] at hV
  obtain ⟨rfl, rfl⟩ := trodVars_none hV
  have hA' : DataW.TrodAll enc Try.prog W' 0 (fun _ => true) true fn.params.toList args.toList ds pa := trodAll_carry hA fun p hp => sameAt_ext hE p (hlt p (List.mem_append_left _ hp))
  have hargs : ∀ sp : Nat → Bool, (∀ p ∈ pa ++ [], sp p.block = true) → DataW.TrodAll enc Try.prog W' 0 sp true fn.params.toList args.toList ds pa := fun sp hsp =>
    DataW.TrodAll.respare kids full hpar hA' fun p hp => hsp p (by simpa using hp)
  have hres' : ∀ (b : Nat) (sp : Nat → Bool) (hd : Bool), DataW.TrodAll enc Try.prog W' b sp hd fn.resultTypes.toList ((Value.bool true).resultList fn.resultTypes.size) [.lit (.bool true)] [] := fun b sp hd => by
    rw [hres]; exact trodAll_cons_mk (shut_bool hbt true) trodAll_mk0
  refine ⟨ds, [], pa ++ [], [], pa, [], hW', by rw [hfn]; exact hres' _ _ _, by rw [hfn]; exact hargs _ hold, by rw [hfn, hv]; rfl, World.keptBut_mono (fun p hp => ⟨hp, ?_⟩) ((hE.toBelow).frame (· ∈ pa ++ [])), fun h => by cases h⟩
  exact Or.inr (by simpa using hp)

/-! ### How arguments read -/

def Old (W : World) : Nat → Prop := fun b => b < W.heap.size

variable {P : Program} {W : World}
/-- A reading of cells of a type as these. -/
theorem rd_int {base : Nat} {spare : Nat → Bool} {held : Bool} {t : TypeId} {k : IntKind} (ht : P.underlying t = some (.int k)) {n : Nat} {cs : List Value} {x : DataW H × List MemPlace} (h : DataW.trod enc P W base spare held n t cs = some x) :
    ∃ z : Int, (Lit.int k z).wf = true ∧ RelL (Old W) W [.val (.int k z)] cs := by
  cases n with
  | zero => simp [DataW.trod] at h
  | succ n =>
    obtain ⟨z, rfl, _, hw⟩ := DataW.trod_int ht h
    exact ⟨z, hw, RelL.cons (.val _) RelL.nil⟩

theorem rd_slice {α : Type} {enc' : α → List AV} {good : α → Prop} {base : Nat} {spare : Nat → Bool} {held : Bool} {t e : TypeId} (ht : P.underlying t = some (.slice e)) (hsz : ∀ a, (enc' a).length = P.cellsOf e) (hpos : 0 < P.cellsOf e)
    (he : ∀ (n : Nat) (cs : List Value) (x : DataW H × List MemPlace), cs.length = P.cellsOf e → DataW.trod enc P W base spare held n e cs = some x → ∃ a, good a ∧ RelL (Old W) W (enc' a) cs)
    {n : Nat} {cs : List Value} {x : DataW H × List MemPlace} (h : DataW.trod enc P W base spare held n t cs = some x) :
    ∃ l : List α, (∀ a ∈ l, good a) ∧ l.length ≤ maxLen ∧ RelL (Old W) W [.ro false l.length (l.flatMap enc')] cs := by
  rcases open_slice ht h with ⟨rfl, -⟩ | ⟨ad, len, cap, m, n', D, Pl, rfl, hb, hl, hm, hmm, hx, hi⟩
  · exact ⟨[], fun _ h => (by cases h), Nat.zero_le _, RelL.cons (.emp _ _ _ (fun h => by cases h) (Nat.zero_le _)) RelL.nil⟩
  · have hlm : len ≤ m := by rw [hmm]; split <;> omega
    have hex : ∀ i : Nat, ∃ a : Option α, i < len → ∃ a', a = some a' ∧ good a' ∧ ∃ cs', W.cells? base (ad.add (i * P.cellsOf e)) (P.cellsOf e) = some cs' ∧ RelL (Old W) W (enc' a') cs' := fun i => by
      by_cases hil : i < len
      · obtain ⟨cs', hc, htr⟩ := hi i (by omega)
        obtain ⟨_, hcl, _⟩ := World.cells?_some hc
        obtain ⟨a, hg, hr⟩ := he _ _ _ hcl htr
        exact ⟨some a, fun _ => ⟨a, rfl, hg, cs', hc, hr⟩⟩
      · exact ⟨none, fun h => absurd h hil⟩
    obtain ⟨f, hf⟩ := Classical.axiomOfChoice hex
    by_cases hlen0 : len = 0
    · subst hlen0
      exact ⟨[], fun _ h => (by cases h), Nat.zero_le _, RelL.cons (.emp _ _ _ (fun h => by cases h) hm) RelL.nil⟩
    · obtain ⟨a0, _, _⟩ := hf 0 (by omega)
      let g : Nat → α := fun i => (f i).getD a0
      have hg : ∀ i, i < len → good (g i) ∧ ∃ cs', W.cells? base (ad.add (i * P.cellsOf e)) (P.cellsOf e) = some cs' ∧ RelL (Old W) W (enc' (g i)) cs' := fun i hi' => by
        obtain ⟨a', ha', h1, h2⟩ := hf i hi'
        have : g i = a' := by simp [g, ha']
        rw [this]; exact ⟨h1, h2⟩
      have hflat : ∀ (len : Nat), (((List.range len).map g).flatMap enc').length = len * P.cellsOf e := by
        intro len
        induction len with
        | zero => simp
        | succ k ih => rw [List.range_succ, List.map_append, List.flatMap_append, List.length_append, ih]; simp [hsz, Nat.add_mul]
      have hflatget : ∀ (len i j : Nat), i < len → j < P.cellsOf e → (((List.range len).map g).flatMap enc')[i * P.cellsOf e + j]? = (enc' (g i))[j]? := by
        intro len
        induction len with
        | zero => intro i j h; omega
        | succ k ih =>
          intro i j h hj
          rw [List.range_succ, List.map_append, List.flatMap_append, List.getElem?_append]
          by_cases hik : i < k
          · have h1 : (i + 1) * P.cellsOf e ≤ k * P.cellsOf e := Nat.mul_le_mul_right _ (by omega)
            rw [Nat.add_mul] at h1
            rw [if_pos (by rw [hflat]; omega)]
            exact ih i j hik hj
          · have : i = k := by omega
            subst this
            rw [if_neg (by rw [hflat]; omega), hflat]
            simp
      have hblk : ad.spot = none ∧ ad.block < W.heap.size := by
        obtain ⟨_, cs', hc, _⟩ := hg 0 (by omega)
        obtain ⟨_, hcl, hat⟩ := World.cells?_some hc
        have h0 := hat 0 hpos
        simp only [Nat.zero_mul] at h0
        have h1 : W.cell? ad ≠ none := by
          intro hn
          rw [show (ad.add 0).add 0 = ad by simp [Addr.add]] at h0
          rw [hn] at h0
          have := (List.getElem?_eq_none_iff.1 h0.symm)
          omega
        refine ⟨?_, ?_⟩
        · cases hsp : ad.spot with
          | none => rfl
          | some _ => exfalso; apply h1; unfold World.cell?; split <;> simp [hsp]
        · cases hc : W.cell? ad with
          | none => exact absurd hc h1
          | some u => exact World.block_lt_of_cell? W ad hc
      obtain ⟨b, off, sp⟩ := ad
      obtain ⟨rfl, hblt⟩ := hblk
      have hcell : ∀ i j, i < len → j < P.cellsOf e → ∃ u, W.cell? ⟨b, off + (i * P.cellsOf e + j), none⟩ = some u ∧ ∃ x, (enc' (g i))[j]? = some x ∧ RelV (Old W) W x u := fun i j hi' hj => by
        obtain ⟨_, cs', hc, hr⟩ := hg i hi'
        obtain ⟨_, hcl, hat⟩ := World.cells?_some hc
        have h0 := hat j hj
        rw [addr_add, addr_add] at h0
        have hjl : j < cs'.length := by omega
        have hjx : j < (enc' (g i)).length := by rw [hsz]; exact hj
        refine ⟨cs'[j], by rw [← Nat.add_assoc, h0]; simp [hjl], (enc' (g i))[j], by simp [hjx], ?_⟩
        have := hr.2 j hjx
        simpa [hjl] using this
      refine ⟨(List.range len).map g, fun a ha => ?_, by simp; omega, RelL.cons ?_ RelL.nil⟩
      · obtain ⟨i, hi', rfl⟩ := List.mem_map.1 ha
        exact (hg i (List.mem_range.1 hi')).1
      · rw [List.length_map, List.length_range]
        have hq : ∀ j, j < (((List.range len).map g).flatMap enc').length → ∃ u, W.cell? ⟨b, off + j, none⟩ = some u ∧ ∃ x, (((List.range len).map g).flatMap enc')[j]? = some x ∧ RelV (Old W) W x u := fun j hj => by
          rw [hflat] at hj
          have h1 : j / P.cellsOf e < len := (Nat.div_lt_iff_lt_mul hpos).2 hj
          have h2 := Nat.mod_lt j hpos
          have h3 : j / P.cellsOf e * P.cellsOf e + j % P.cellsOf e = j := by rw [Nat.mul_comm]; exact Nat.div_add_mod j _
          obtain ⟨u, hu, x, hx', hr⟩ := hcell (j / P.cellsOf e) (j % P.cellsOf e) h1 h2
          rw [h3] at hu
          refine ⟨u, hu, x, ?_, hr⟩
          have := hflatget len _ _ h1 h2
          rw [h3] at this
          rw [this, hx']
        refine .ro false len _ b off cap (fun j => (W.cell? ⟨b, off + j, none⟩).getD undef) hblt (fun j hj => ?_) (fun j hj => ?_) hl hm (fun h => by cases h)
        · obtain ⟨u, hu, _⟩ := hq j hj
          rw [hu]; rfl
        · obtain ⟨u, hu, x, hx', hr⟩ := hq j hj
          rw [hu]
          simp only [Option.getD_some]
          have : x = (((List.range len).map g).flatMap enc')[j] := by
            rw [List.getElem?_eq_getElem hj] at hx'; exact (Option.some.inj hx').symm
          rw [← this]; exact hr

theorem flatMap_one {α : Type} (f : α → AV) (l : List α) : l.flatMap (fun a => [f a]) = l.map f := by
  induction l with
  | nil => rfl
  | cons a l ih => simp [List.flatMap_cons, ih]

theorem rd_ints {base : Nat} {spare : Nat → Bool} {held : Bool} {t e : TypeId} {k : IntKind} (ht : P.underlying t = some (.slice e)) (he : P.underlying e = some (.int k)) (h1 : P.cellsOf e = 1) {n : Nat} {cs : List Value} {x : DataW H × List MemPlace} (h : DataW.trod enc P W base spare held n t cs = some x) :
    ∃ l : List Int, (∀ z ∈ l, (Lit.int k z).wf = true) ∧ l.length ≤ maxLen ∧ RelL (Old W) W [.ro false l.length (intsA k l)] cs := by
  obtain ⟨l, h2, h3, h4⟩ := rd_slice (enc' := fun z : Int => [.val (.int k z)]) (good := fun z => (Lit.int k z).wf = true) ht (fun _ => h1.symm) (by omega) (fun n cs x _ h => rd_int he h) h
  rw [flatMap_one] at h4
  exact ⟨l, h2, h3, h4⟩
theorem rd_bytes {base : Nat} {spare : Nat → Bool} {held : Bool} {t e : TypeId} (ht : P.underlying t = some (.slice e)) (he : P.underlying e = some (.int .u8)) (h1 : P.cellsOf e = 1) {n : Nat} {cs : List Value} {x : DataW H × List MemPlace} (h : DataW.trod enc P W base spare held n t cs = some x) :
    ∃ l : List UInt8, l.length ≤ maxLen ∧ RelL (Old W) W [roB l] cs := by
  obtain ⟨l, h2, h3, h4⟩ := rd_ints ht he h1 h
  have hb : ∃ m : List UInt8, l = m.map fun b => ((b.toNat : Nat) : Int) := by
    clear h h3 h4
    induction l with
    | nil => exact ⟨[], rfl⟩
    | cons z l ih =>
      obtain ⟨m, rfl⟩ := ih fun z hz => h2 z (List.mem_cons_of_mem _ hz)
      have hz := h2 z (List.mem_cons_self ..)
      have hz' : 0 ≤ z ∧ z ≤ 255 := by simpa [Lit.wf, IntKind.min, IntKind.max, IntKind.signed, IntKind.bits] using hz
      refine ⟨UInt8.ofNat z.toNat :: m, ?_⟩
      simp only [List.map_cons, List.cons.injEq, and_true]
      rw [UInt8.toNat_ofNat_of_lt' (by simp [UInt8.size]; omega)]
      omega
  obtain ⟨m, rfl⟩ := hb
  refine ⟨m, by simpa using h3, ?_⟩
  simpa [roB, bytesA, intsA, Function.comp_def] using h4

theorem relV_of_one {R : Nat → Prop} {a : AV} {v : Value} (hc : v.cells.toList = [v]) (h : RelL R W [a] v.cells.toList) : RelV R W a v := by
  rw [hc] at h
  obtain ⟨u, r, he, h1, _⟩ := h.uncons
  cases he
  exact h1
end
end Go.Proofs.Ytlcoanbdaephiaa.A

namespace Go.Proofs.Ytlcoanbdaephiaa.A
open Go.ChangeShapes Go.WideShapes Go.ChangeAt Go.RowKit L
set_option linter.unusedVariables false
set_option linter.unusedSimpArgs false
section
variable {P : Program}

/-- Arguments of this type read as one of these. -/
def Reads (P : Program) (t : TypeId) (φ : AV → Prop) : Prop :=
  ∀ (H : Type) (enc : TypeId × Value → H) (W : World) (base b0 : Nat) (spare : Nat → Bool) (held : Bool) (v : Value) (d : DataW H) (p : List MemPlace),
    Value.okWide P W .any b0 t v → DataW.Trod enc P W base spare held t v d p → ∃ x, φ x ∧ RelV (Old W) W x v
/-- Cells of this type read as one of these. -/
structure RdC (P : Program) (t : TypeId) {α : Type} (f : α → List AV) (good : α → Prop) : Prop where
  len : ∀ a, (f a).length = P.cellsOf t
  rd : ∀ (H : Type) (enc : TypeId × Value → H) (W : World) (base : Nat) (spare : Nat → Bool) (held : Bool) (n : Nat) (cs : List Value) (x : DataW H × List MemPlace),
    DataW.trod enc P W base spare held n t cs = some x → ∃ a, good a ∧ RelL (Old W) W (f a) cs

theorem okw_int {W : World} {r : Reach} {b : Nat} {t : TypeId} {k : IntKind} (ht : P.underlying t = some (.int k)) {v : Value} (h : Value.okWide P W r b t v) : v.cells.toList = [v] := by
  cases v <;> simp [Value.okWide, ht, Cell.okWide, Cell.ok] at h <;> rfl
theorem okw_slice {W : World} {r : Reach} {b : Nat} {t e : TypeId} (ht : P.underlying t = some (.slice e)) {v : Value} (h : Value.okWide P W r b t v) : v.cells.toList = [v] := by
  cases v <;> simp [Value.okWide, ht, Cell.okWide, Cell.ok] at h <;> rfl
theorem okw_bool {W : World} {r : Reach} {b : Nat} {t : TypeId} (ht : P.underlying t = some .bool) {v : Value} (h : Value.okWide P W r b t v) : v.cells.toList = [v] := by
  cases v <;> simp [Value.okWide, ht, Cell.okWide, Cell.ok] at h <;> rfl
theorem RelL.glue {R : Nat → Prop} {W : World} {xs ys : List AV} {cs : List Value} {o k : Nat} (h1 : RelL R W xs ((cs.drop o).take k)) (h2 : RelL R W ys (cs.drop (o + k))) : RelL R W (xs ++ ys) (cs.drop o) := by
  have := h1.app h2
  rwa [show (cs.drop o).take k ++ cs.drop (o + k) = cs.drop o by rw [← List.drop_drop, List.take_append_drop]] at this
theorem RdC.int {t : TypeId} {k : IntKind} (ht : P.underlying t = some (.int k)) (h1 : P.cellsOf t = 1) : RdC P t (fun z : Int => [.val (.int k z)]) (fun z => (Lit.int k z).wf = true) :=
  ⟨fun _ => h1.symm, fun H enc W base spare held n cs x h => rd_int ht h⟩
theorem RdC.bool {t : TypeId} (ht : P.underlying t = some .bool) (h1 : P.cellsOf t = 1) : RdC P t (fun z : Bool => [.val (.bool z)]) (fun _ => True) :=
  ⟨fun _ => h1.symm, fun H enc W base spare held n cs x h => by
    obtain ⟨b, rfl, _⟩ := DataW.trod_bool ht h
    exact ⟨b, trivial, RelL.cons (.val _) RelL.nil⟩⟩
theorem RdC.string {t : TypeId} (ht : P.underlying t = some .string) (h1 : P.cellsOf t = 1) : RdC P t (fun s : ByteArray => [.val (.string s)]) (fun s => s.size ≤ maxLen) :=
  ⟨fun _ => h1.symm, fun H enc W base spare held n cs x h => by
    obtain ⟨b, rfl, _, hs⟩ := DataW.trod_string ht h
    exact ⟨b, hs, RelL.cons (.val _) RelL.nil⟩⟩
theorem RdC.slice {t e : TypeId} {α : Type} {f : α → List AV} {good : α → Prop} (ht : P.underlying t = some (.slice e)) (h1 : P.cellsOf t = 1) (hpos : 0 < P.cellsOf e) (h : RdC P e f good) :
    RdC P t (fun l : List α => [.ro false l.length (l.flatMap f)]) (fun l => (∀ a ∈ l, good a) ∧ l.length ≤ maxLen) :=
  ⟨fun _ => h1.symm, fun H enc W base spare held n cs x hx => by
    obtain ⟨l, h2, h3, h4⟩ := rd_slice ht h.len hpos (fun n cs x _ hx => h.rd H enc W base spare held n cs x hx) hx
    exact ⟨l, ⟨h2, h3⟩, h4⟩⟩
theorem RdC.bytes {t e : TypeId} (ht : P.underlying t = some (.slice e)) (he : P.underlying e = some (.int .u8)) (h1 : P.cellsOf t = 1) (h2 : P.cellsOf e = 1) : RdC P t (fun l : List UInt8 => [roB l]) (fun l => l.length ≤ maxLen) :=
  ⟨fun _ => h1.symm, fun H enc W base spare held n cs x hx => rd_bytes ht he h2 hx⟩
theorem RdC.ints {t e : TypeId} {k : IntKind} (ht : P.underlying t = some (.slice e)) (he : P.underlying e = some (.int k)) (h1 : P.cellsOf t = 1) (h2 : P.cellsOf e = 1) :
    RdC P t (fun l : List Int => [.ro false l.length (intsA k l)]) (fun l => (∀ z ∈ l, (Lit.int k z).wf = true) ∧ l.length ≤ maxLen) :=
  ⟨fun _ => h1.symm, fun H enc W base spare held n cs x hx => by
    obtain ⟨l, h3, h4, h5⟩ := rd_ints ht he h2 hx
    exact ⟨l, ⟨h3, h4⟩, h5⟩⟩
/-- Fields, one after the other, from cell o on. -/
structure FR (P : Program) (fs : List Field) (o m : Nat) {α : Type} (f : α → List AV) (good : α → Prop) : Prop where
  len : ∀ a, (f a).length = m
  rd : ∀ (H : Type) (enc : TypeId × Value → H) (W : World) (base : Nat) (spare : Nat → Bool) (held : Bool) (cs : List Value), cs.length = o + m →
    (∀ fd ∈ fs, ∃ (n : Nat) (y : DataW H × List MemPlace), DataW.trod enc P W base spare held n fd.type ((cs.drop fd.offset).take (P.cellsOf fd.type)) = some y) → ∃ a, good a ∧ RelL (Old W) W (f a) (cs.drop o)
theorem FR.nil {o : Nat} : FR P [] o 0 (fun _ : Unit => []) (fun _ => True) :=
  ⟨fun _ => rfl, fun H enc W base spare held cs hl _ => ⟨(), trivial, by rw [List.drop_of_length_le (by omega)]; exact RelL.nil⟩⟩
theorem FR.cons {fd : Field} {fs : List Field} {o k m : Nat} {α β : Type} {f : α → List AV} {good : α → Prop} {g : β → List AV} {good' : β → Prop} (h : RdC P fd.type f good) (ho : fd.offset = o) (hk : P.cellsOf fd.type = k) (hs : FR P fs (o + k) m g good') :
    FR P (fd :: fs) o (k + m) (fun p : α × β => f p.1 ++ g p.2) (fun p => good p.1 ∧ good' p.2) :=
  ⟨fun p => by rw [List.length_append, h.len, hs.len, hk], fun H enc W base spare held cs hl hall => by
    obtain ⟨n, y, h1⟩ := hall fd (List.mem_cons_self ..)
    rw [ho, hk] at h1
    obtain ⟨a, h2, h3⟩ := h.rd H enc W base spare held _ _ _ h1
    obtain ⟨b, h4, h5⟩ := hs.rd H enc W base spare held cs (by omega) (fun fd hfd => hall fd (List.mem_cons_of_mem _ hfd))
    exact ⟨(a, b), ⟨h2, h4⟩, RelL.glue h3 h5⟩⟩
theorem RdC.struct {t : TypeId} {fs : List Field} {m : Nat} {α : Type} {f : α → List AV} {good : α → Prop} (ht : P.underlying t = some (.struct fs.toArray)) (hm : P.cellsOf t = m) (h : FR P fs 0 m f good) : RdC P t f good :=
  ⟨fun a => by rw [h.len, hm], fun H enc W base spare held n cs x hx => by
    obtain ⟨xs, n', _, _, hl, hlen, hf⟩ := DataW.trod_struct ht hx
    obtain ⟨a, h1, h2⟩ := h.rd H enc W base spare held cs (by omega) (fun fd hfd => by
      obtain ⟨i, hi, rfl⟩ := List.getElem_of_mem hfd
      have h0 := hf i fs[i] (by simp [hi])
      have hxi : i < xs.length := by rw [hlen]; simpa using hi
      rw [List.getElem?_eq_getElem hxi] at h0
      exact ⟨n', _, h0⟩)
    exact ⟨a, h1, by simpa using h2⟩⟩
theorem RdC.map {t : TypeId} {α β : Type} {f : α → List AV} {good : α → Prop} {g : β → List AV} {good' : β → Prop} (h : RdC P t f good) (φ : α → β) (hφ : ∀ a, good a → good' (φ a) ∧ f a = g (φ a)) (hl : ∀ b, (g b).length = P.cellsOf t) : RdC P t g good' :=
  ⟨hl, fun H enc W base spare held n cs x hx => by
    obtain ⟨a, h1, h2⟩ := h.rd H enc W base spare held n cs x hx
    exact ⟨φ a, (hφ a h1).1, (hφ a h1).2 ▸ h2⟩⟩
theorem RdC.reads {t : TypeId} {α : Type} {f : α → List AV} {good : α → Prop} (h : RdC P t f good) (g : α → AV) (hg : ∀ a, f a = [g a]) (hw : ∀ (W : World) (b : Nat) (v : Value), Value.okWide P W .any b t v → v.cells.toList = [v]) : Reads P t (fun x => ∃ a, good a ∧ x = g a) :=
  fun H enc W base b0 spare held v d p hv ⟨n, hx⟩ => by
    obtain ⟨a, h1, h2⟩ := h.rd H enc W base spare held n _ _ hx
    rw [hg] at h2
    exact ⟨g a, ⟨a, h1, rfl⟩, relV_of_one (hw _ _ _ hv) h2⟩
theorem Reads.int {t : TypeId} {k : IntKind} (ht : P.underlying t = some (.int k)) (h1 : P.cellsOf t = 1) : Reads P t (fun x => ∃ z : Int, (Lit.int k z).wf = true ∧ x = .val (.int k z)) := (RdC.int ht h1).reads (fun z => .val (.int k z)) (fun _ => rfl) (fun _ _ _ h => okw_int ht h)
theorem Reads.bool {t : TypeId} (ht : P.underlying t = some .bool) (h1 : P.cellsOf t = 1) : Reads P t (fun x => ∃ z : Bool, True ∧ x = .val (.bool z)) := (RdC.bool ht h1).reads (fun z => .val (.bool z)) (fun _ => rfl) (fun _ _ _ h => okw_bool ht h)
theorem Reads.bytes {t e : TypeId} (ht : P.underlying t = some (.slice e)) (he : P.underlying e = some (.int .u8)) (h1 : P.cellsOf t = 1) (h2 : P.cellsOf e = 1) : Reads P t (fun x => ∃ l : List UInt8, l.length ≤ maxLen ∧ x = roB l) := (RdC.bytes ht he h1 h2).reads roB (fun _ => rfl) (fun _ _ _ h => okw_slice ht h)
theorem Reads.ints {t e : TypeId} {k : IntKind} (ht : P.underlying t = some (.slice e)) (he : P.underlying e = some (.int k)) (h1 : P.cellsOf t = 1) (h2 : P.cellsOf e = 1) :
    Reads P t (fun x => ∃ l : List Int, ((∀ z ∈ l, (Lit.int k z).wf = true) ∧ l.length ≤ maxLen) ∧ x = .ro false l.length (intsA k l)) := (RdC.ints ht he h1 h2).reads (fun l => .ro false l.length (intsA k l)) (fun _ => rfl) (fun _ _ _ h => okw_slice ht h)
theorem Reads.slice {t e : TypeId} {α : Type} {f : α → List AV} {good : α → Prop} (ht : P.underlying t = some (.slice e)) (h1 : P.cellsOf t = 1) (hpos : 0 < P.cellsOf e) (h : RdC P e f good) :
    Reads P t (fun x => ∃ l : List α, ((∀ a ∈ l, good a) ∧ l.length ≤ maxLen) ∧ x = .ro false l.length (l.flatMap f)) := (RdC.slice ht h1 hpos h).reads (fun l => .ro false l.length (l.flatMap f)) (fun _ => rfl) (fun _ _ _ h => okw_slice ht h)

/-- All arguments. -/
def ReadsL (P : Program) : List TypeId → List (AV → Prop) → Prop
  | [], [] => True
  | t :: ts, φ :: φs => Reads P t φ ∧ ReadsL P ts φs
  | _, _ => False
theorem ReadsL.nil : ReadsL P [] [] := trivial
theorem ReadsL.cons {t : TypeId} {ts : List TypeId} {φ : AV → Prop} {φs : List (AV → Prop)} (h : Reads P t φ) (hs : ReadsL P ts φs) : ReadsL P (t :: ts) (φ :: φs) := ⟨h, hs⟩
def AllOf : List (AV → Prop) → (List AV → Prop) → Prop
  | [], K => K []
  | φ :: φs, K => ∀ x, φ x → AllOf φs (fun xs => K (x :: xs))

theorem readAll {H : Type} {enc : TypeId × Value → H} {W : World} {base b0 : Nat} {spare : Nat → Bool} {held : Bool} : ∀ {ts : List TypeId} {φs : List (AV → Prop)} {K : List AV → Prop} {vs : List Value} {ds : List (DataW H)} {ps : List MemPlace},
    ReadsL P ts φs → AllOf φs K → (∀ (j : Nat) t v, ts[j]? = some t → vs[j]? = some v → Value.okWide P W .any b0 t v) → DataW.TrodAll enc P W base spare held ts vs ds ps → ∃ xs, K xs ∧ RelL (Old W) W xs vs
  | [], [], K, vs, ds, ps, _, hK, _, hT => by
    obtain ⟨rfl, _, _⟩ := trodAll_nil hT
    exact ⟨[], hK, RelL.nil⟩
  | [], _ :: _, _, _, _, _, h, _, _, _ => h.elim
  | _ :: _, [], _, _, _, _, h, _, _, _ => h.elim
  | t :: ts, φ :: φs, K, vs, ds, ps, h, hK, hv, hT => by
    obtain ⟨v0, vs0, d0, ds0, p0, q0, rfl, rfl, rfl, h0, r0⟩ := trodAll_cons hT
    obtain ⟨x, h1, h2⟩ := h.1 H enc W base b0 spare held v0 d0 p0 (hv 0 t v0 rfl rfl) h0
    obtain ⟨xs, h3, h4⟩ := readAll h.2 (hK x h1) (fun j t v a b => hv (j + 1) t v a b) r0
    exact ⟨x :: xs, h3, RelL.cons h2 h4⟩
end

theorem law_contract {f : FuncId} {fn : Func} {s : ChangeSpec} {H : Type} (enc : TypeId × Value → H) {ts : List TypeId} {φs : List (AV → Prop)} (hp : fn.params.toList = ts) (hr : ReadsL Try.prog ts φs)
    (h : AllOf φs fun xs => Sp Try.prog f xs [] (Is (.val (.bool true)))) {W : World} {base : Nat} {args : Array Value} {ds gs : List (DataW H)} {before : List MemPlace}
    (hval : ∀ (j : Nat) t v, fn.params[j]? = some t → args[j]? = some v → Value.okWide Try.prog W .any base t v)
    (hW : DataW.Whole enc Try.prog fn.params.toList s.vars false W args.toList ds gs before)
    (post : ∀ W', Ext W W' → s.post enc Try.prog fn false true false false W args (.bool true) W') :
    Calls Try.prog f args W fun e W' => ∃ v, e = .returned v ∧ s.post enc Try.prog fn false true false false W args v W' := by
  obtain ⟨p, q, hA, hV, rfl, hfz, hnd⟩ := hW
  rw [hp] at hA
  obtain ⟨xs, hS, hR⟩ := readAll (b0 := base) hr h (fun j t v h1 h2 => hval j t v (by rw [← Array.getElem?_toList, hp]; exact h1) (by rw [← Array.getElem?_toList]; exact h2)) hA
  have hc := hS W (Old W) args.toList (fun b hb => hb) (fun e he => by cases he) .nil hR
  rw [Array.toArray_toList] at hc
  refine hc.mono ?_
  rintro e W' ⟨u, r, H', R', rfl, ⟨rfl, rfl⟩, hs, hv⟩
  obtain rfl := hv.val_inv
  exact ⟨_, rfl, post W' (hs.mods.mono fun b _ ⟨e, he, _⟩ => by cases he)⟩
end Go.Proofs.Ytlcoanbdaephiaa.A

namespace Go.Proofs.Ytlcoanbdaephiaa.LwM
open Go.ChangeShapes Go.WideShapes Go.ChangeAt Go.RowKit L A Ob
set_option linter.unusedVariables false

theorem contract (H : Type) (enc : TypeId × Value → H) (W : World) (base : Nat) (args : Array Value) (ds gs : List (DataW H)) (before : List MemPlace)
    (hval : ∀ (j : Nat) t v, Try.f8.params[j]? = some t → args[j]? = some v → Value.okWide Try.prog W .any base t v)
    (hW : DataW.Whole enc Try.prog Try.f8.params.toList Rows.observeNumbersSpec.vars false W args.toList ds gs before) :
    Calls Try.prog 8 args W fun e W' => ∃ v, e = .returned v ∧ Rows.observeNumbersSpec.post enc Try.prog Try.f8 false true false false W args v W' := by
  have hW' := hW
  obtain ⟨p, q, hA0, hV, rfl, hfz, hnd⟩ := hW
  have hA : DataW.TrodAll enc Try.prog W 0 (fun _ => true) true Try.f8.params.toList args.toList ds p := hA0
  rw [Try.params8] at hA
  obtain ⟨v0, vs0, d0, ds0, p0, q0, ha0, rfl, hp0, h0, r0⟩ := trodAll_cons hA
  obtain ⟨v1, vs1, d1, ds1, p1, q1, ha1, rfl, hp1, h1, r1⟩ := trodAll_cons r0
  obtain ⟨-, rfl, -⟩ := trodAll_nil r1
  obtain ⟨rfl, rfl⟩ := trodVars_none hV
  refine law_contract enc (ts := [23, 23]) (by rw [Try.params8]) (ReadsL.cons (Reads.ints Try.underlying23 Try.underlying3 (by kernel_rfl) (by kernel_rfl)) (ReadsL.cons (Reads.ints Try.underlying23 Try.underlying3 (by kernel_rfl) (by kernel_rfl)) (ReadsL.nil))) (φs := [_, _]) ?_ hval hW' (fun W' hE => lawPost hW' rfl rfl rfl Try.underlying4 (by rw [Try.params8]; decide) hE)
  rintro _ ⟨x0, h0, rfl⟩ _ ⟨x1, h1, rfl⟩
  exact lawNumbers_fn x0 x1 h0.2 h1.2

set_option maxRecDepth 100000 in
theorem lifted (os : Os) (started : os.Started) (H : Type) (enc : TypeId × Value → H) :
    ReturnsInHanded {} Try.checked os 8 .any (Rows.observeNumbersSpec.pre6 enc Try.prog Try.f8 Rows.observeNumbersRow.domain false) (Rows.observeNumbersSpec.post enc Try.prog Try.f8 false true false false) := by
  refine returnsInHanded_of_change (C := Try.checked) own started (by kernel_rfl) Try.func8
    (ChangeSpec.witness6 (enc := enc) (C := Try.checked) false ⟨#[], #[.slice none 0 0, .slice none 0 0], []⟩ 8 (by kernel_rfl) (by kernel_rfl) (by kernel_rfl) (by kernel_rfl)) ?_
  intro W base args ds gs before hval hW _ _
  exact contract H enc W base args ds gs before hval hW

theorem over : Rows.observeNumbersRow.holds Try.pinned (OpenSpec.ofChange Rows.observeNumbersSpec) :=
  OpenClaim.holds_of_wide 8 Try.f8 rfl rfl rfl rfl rfl rfl rfl ⟨rfl, rfl, rfl, rfl, rfl⟩ rfl rfl rfl rfl rfl (by kernel_rfl) Try.func8 (by kernel_rfl)
    (of_decide_eq_true (by kernel_rfl)) (by unfold Func.isWrapper; first | (rw [if_pos (by decide +kernel)]; kernel_rfl) | (rw [if_neg (by decide +kernel)]; exact ⟨rfl, rfl⟩))
    (fun os started H enc _ => lifted os started H enc)
theorem observeNumbers : Rows.ObserveNumbersSaid := over
end Go.Proofs.Ytlcoanbdaephiaa.LwM
