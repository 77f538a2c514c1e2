/-
  TopObserve, the statement: for every input the law returns true, and its arguments read as before. No condition.
-/
import Derived.Test.YtoonnnifelnaiaaGreatDoorRows
import Derived.Lay
import Derived.LaidOnce
import Derived.MakeChecks
import Derived.Test.YtoonnnifelnaiaaGreatDoorZ3
namespace Go.Proofs.YtoonnnifelnaiaaGreatDoor.Ob
open Go.RowKit L A Dk
set_option linter.unusedVariables false
set_option maxRecDepth 20000
set_option linter.unusedSimpArgs false
attribute [local irreducible] AW AQ AO

def nextS (s : Int) : Int := (s + 1).tmod 16777216
def tell (key : List UInt8) (w : Watch) : Watch := if (w.key == key) = true then { w with seq := nextS w.seq } else w
def notW (ws : List Watch) (key : List UInt8) : List Watch := ws.map (tell key)
def toldW (ws : List Watch) (key : List UInt8) : List Watch := (notW ws key).filter fun w => w.key == key
def SeqOk (ws : List Watch) : Prop := ∀ w ∈ ws, 0 ≤ w.seq ∧ w.seq < 16777216
theorem SeqOk.at {ws : List Watch} (h : SeqOk ws) {k : Nat} (hk : k < ws.length) : 0 ≤ (wat ws k).seq ∧ (wat ws k).seq < 16777216 := by
  have : wat ws k = ws[k] := by simp [wat, hk]
  rw [this]; exact h _ (List.getElem_mem hk)
theorem tell_tok (key : List UInt8) (w : Watch) : (tell key w).tok = w.tok ∧ (tell key w).key = w.key ∧ (tell key w).peer = w.peer ∧ (tell key w).since = w.since := by unfold tell; split <;> exact ⟨rfl, rfl, rfl, rfl⟩
theorem notW_short {ws : List Watch} (h : Short ws) (key : List UInt8) : Short (notW ws key) := by
  refine ⟨by simp [notW]; exact h.1, fun w hw => ?_⟩
  obtain ⟨v, hv, rfl⟩ := List.mem_map.1 hw
  rw [(tell_tok key v).1, (tell_tok key v).2.1]
  exact h.2 v hv

/-- The first i told, the rest as it was. -/
def nTo (ws : List Watch) (key : List UInt8) (i : Nat) : List Watch := (ws.take i).map (tell key) ++ ws.drop i
theorem nTo_len (ws : List Watch) (key : List UInt8) (i : Nat) : (nTo ws key i).length = ws.length := by simp [nTo]; omega
theorem nTo_wat {ws : List Watch} {key : List UInt8} {i : Nat} (h : i < ws.length) : wat (nTo ws key i) i = wat ws i := by
  have h1 : ((ws.take i).map (tell key)).length = i := by simp; omega
  simp [wat, nTo, List.getD, List.getElem?_append_right, Nat.min_eq_left (Nat.le_of_lt h)]
theorem nTo_succ {ws : List Watch} {key : List UInt8} {i : Nat} (h : i < ws.length) : nTo ws key (i + 1) = (nTo ws key i).set i (tell key (wat ws i)) := by
  have hw : wat ws i = ws[i] := by simp [wat, h]
  have h1 : ((ws.take i).map (tell key)).length = i := by simp; omega
  rw [nTo, nTo, List.take_succ_eq_append_getElem h, List.set_append_right _ _ (by omega), h1, Nat.sub_self, List.drop_eq_getElem_cons h, List.set_cons_zero, hw, List.map_append, List.append_assoc]
  rfl
theorem nTo_same {ws : List Watch} {key : List UInt8} {i : Nat} (h : i < ws.length) (hk : ¬ ((wat ws i).key == key) = true) : nTo ws key (i + 1) = nTo ws key i := by
  rw [nTo_succ h, tell, if_neg hk]
  apply List.ext_getElem?
  intro j
  rw [List.getElem?_set]
  split
  · rename_i e
    subst e
    have h2 : i < (nTo ws key i).length := by rw [nTo_len]; exact h
    have := nTo_wat (key := key) h
    rw [if_pos h2, ← this]
    simp [wat, h2]
  · rfl
theorem nTo_all (ws : List Watch) (key : List UInt8) : nTo ws key ws.length = notW ws key := by simp [nTo, notW]

theorem at2 {M : List Watch} {i : Nat} (h : i < M.length) : (watchesA M)[0 + Int.toNat (i : Int) * 5 + 2]? = some (roB (wat M i).key) := by
  have := watchesA_at M i h
  have h2 : (((watchesA M).drop (i * 5)).take 5)[2]? = some (roB (wat M i).key) := by rw [this]; rfl
  simpa [List.getElem?_take, List.getElem?_drop] using h2
theorem at3 {M : List Watch} {i : Nat} (h : i < M.length) : (watchesA M)[0 + Int.toNat (i : Int) * 5 + 3]? = some (.val (.int .i64 (wat M i).seq)) := by
  have := watchesA_at M i h
  have h2 : (((watchesA M).drop (i * 5)).take 5)[3]? = some (.val (.int .i64 (wat M i).seq)) := by rw [this]; rfl
  simpa [List.getElem?_take, List.getElem?_drop] using h2

set_option maxHeartbeats 2000000 in
theorem notify_fn (ws : List Watch) (hsh : Short ws) (hsq : SeqOk ws) (key : List UInt8) : Sp Tryz.prog 14 [roW ws, roB key] [] (Is (.tup [roW (notW ws key), roW (toldW ws key)])) := by
  have hlen := hsh.1
  have HF1 := filter_fn ws hsh (fun _ => true) _ [] _ Tryz.func45 rfl rfl (fun p' tk' ky' s' t' => c4_fn _ _ _ _ _)
  have hft : ws.filter (fun _ => true) = ws := by simp
  rw [hft] at HF1
  have HF2 := filter_fn (notW ws key) (notW_short hsh key) (fun w => w.key == key) _ [.rp [roB key] 0] _ Tryz.func47 rfl rfl (fun p' tk' ky' s' t' => c5_fn _ _ _ _ _ _)
  refine Sp.enter Tryz.func14 rfl _ Tryz.ntmps14 rfl (fun w0 R0 => ?_)
  refine AW.seq ?_
  refine AW.region ?_
  refine AO.opB (O.box rfl rfl rfl rfl rfl) rfl rfl rfl ?_
  intro B
  refine AO.op (O.assign rfl rfl) rfl rfl rfl ?_
  refine AO.op (O.assign rfl rfl) rfl rfl rfl ?_
  refine AO.nil ?_
  refine AQ.thenN ?_
  refine AW.seq ?_
  refine AW.region ?_
  refine AO.op (O.move rfl rfl) rfl rfl rfl ?_
  first | (refine AO.opRow (O.call rfl Tryz.func41 rfl rfl rfl (HF1)) rfl rfl rfl ?_) | (refine AO.opRow (O.call rfl Tryz.func41 rfl rfl rfl (HF2)) rfl rfl rfl ?_) | (refine AO.opRow (O.callC rfl Tryz.func41 rfl rfl rfl (HF1) (by (repeat (first | exact CoeL.nil | refine CoeL.cons Coe.rfl ?_ | refine CoeL.cons Coe.nil ?_ | refine CoeL.cons Coe.unfull ?_ | refine CoeL.cons (Coe.agg ?_) ?_ | refine CoeL.cons (Coe.tup ?_) ?_ | refine CoeL.cons (Coe.ro ?_) ?_)); first | done | fail)) rfl rfl rfl ?_) | (refine AO.opRow (O.callC rfl Tryz.func41 rfl rfl rfl (HF2) (by (repeat (first | exact CoeL.nil | refine CoeL.cons Coe.rfl ?_ | refine CoeL.cons Coe.nil ?_ | refine CoeL.cons Coe.unfull ?_ | refine CoeL.cons (Coe.agg ?_) ?_ | refine CoeL.cons (Coe.tup ?_) ?_ | refine CoeL.cons (Coe.ro ?_) ?_)); first | done | fail)) rfl rfl rfl ?_)
  intro V hV
  refine AO.op (O.assign rfl rfl) rfl rfl rfl ?_
  refine AO.nil ?_
  refine AQ.thenN ?_
  refine AW.seq ?_
  refine AW.seq ?_
  refine AW.region ?_
  refine AO.op (O.move rfl rfl) rfl rfl rfl ?_
  first | (refine AO.op (O.lenR rfl rfl) rfl rfl rfl ?_) | (refine AO.op (O.lenV rfl rfl) rfl rfl rfl ?_) | (refine AO.op (O.lenRow rfl rfl (by repeat (first | exact List.Mem.head _ | refine List.Mem.tail _ ?_))) rfl rfl rfl ?_) | (refine AO.op (O.lenS rfl rfl) rfl rfl rfl ?_)
  refine AO.op (O.move rfl rfl) rfl rfl rfl ?_
  refine AO.nil ?_
  refine AQ.thenN ?_
  refine AW.block ?_
  refine AW.loop (fun n E H => ∃ (i : Nat), i ≤ ws.length ∧ n = ws.length - i ∧ E = [(3, .val (.pointer (some ⟨B, 0, none⟩))), (6, .val V), (11, .val (.int .i64 (ws.length : Int))), (12, .val (.int .i64 (i : Int)))] ∧ H = [.row V 34 5 ws.length (watchesA (nTo ws key i)), .blk B 31 1 [roB key]]) (ws.length) (⟨0, by omega, rfl, rfl, rfl⟩) (by repeat (first | exact envNil | refine envCons rfl ?_)) ⟨_, by repeat (first | exact List.Sublist.slnil | refine List.Sublist.cons_cons _ ?_ | refine List.Sublist.cons _ ?_), List.Perm.refl _⟩ ?_
  rintro n E H ⟨i, hi, rfl, rfl, rfl⟩
  refine AW.seq ?_
  refine AW.region ?_
  refine AO.op (O.lss rfl rfl rfl (by first | exact bTrue (by omega) | exact bFalse (by omega) | assumption | rfl)) rfl rfl rfl ?_
  refine AO.nil ?_
  refine AQ.thenN ?_
  refine AW.seq ?_
  refine AW.split rfl (fun hlt => ?_) (fun hlt => ?_)
  · skip
    have hlt : i < ws.length := by have := of_decide_eq_true hlt; omega
    have hln := nTo_len ws key i
    have hlt' : i < (nTo ws key i).length := by omega
    have hw := nTo_wat (key := key) hlt
    have hs := hsq.at hlt
    rw [← hw] at hs
    refine AW.g ?_
    refine G.openRow 0 rfl (by omega) (fun b' cap hc1 hc2 hxs hVe => ?_)
    refine AW.u ?_
    subst hVe
    refine AW.skip ?_
    refine AQ.thenN ?_
    refine AW.seq ?_
    refine AW.block ?_
    refine AW.seq ?_
    refine AW.region ?_
    refine AO.op (O.move rfl rfl) rfl rfl rfl ?_
    refine AO.op (O.assign rfl rfl) rfl rfl rfl ?_
    refine AO.nil ?_
    refine AQ.thenN ?_
    refine AW.seq ?_
    refine AW.regionD 7 (by kernel_rfl) (by kernel_rfl) ?_
    simp only [List.take_succ_cons, List.take_zero, List.drop_succ_cons, List.drop_zero]
    refine FA.op (O.move rfl rfl) rfl rfl rfl rfl ?_
    refine FA.op (O.move rfl rfl) rfl rfl rfl rfl ?_
    first | (refine FA.op (O.idxR rfl rfl rfl ⟨(by first | omega | (simp only [List.length_take, List.length_drop, List.length_append, List.length_cons, List.length_nil, List.length_set, Nat.zero_add]; omega) | (simp only [cond_true, cond_false, Bool.not_eq_true', Bool.not_eq_false', Bool.and_eq_true, Bool.or_eq_true, Bool.or_eq_false_iff, Bool.and_eq_false_imp, decide_eq_true_eq, decide_eq_false_iff_not, beq_iff_eq, bne_iff_ne, bne_eq_false_iff_eq, ne_eq] at hp; omega)), (by first | omega | (simp only [List.length_take, List.length_drop, List.length_append, List.length_cons, List.length_nil, List.length_set, Nat.zero_add]; omega) | (simp only [cond_true, cond_false, Bool.not_eq_true', Bool.not_eq_false', Bool.and_eq_true, Bool.or_eq_true, Bool.or_eq_false_iff, Bool.and_eq_false_imp, decide_eq_true_eq, decide_eq_false_iff_not, beq_iff_eq, bne_iff_ne, bne_eq_false_iff_eq, ne_eq] at hp; omega))⟩) rfl rfl rfl rfl ?_) | (refine FA.op (O.idxV rfl rfl rfl ⟨(by first | omega | (simp only [List.length_take, List.length_drop, List.length_append, List.length_cons, List.length_nil, List.length_set, Nat.zero_add]; omega) | (simp only [cond_true, cond_false, Bool.not_eq_true', Bool.not_eq_false', Bool.and_eq_true, Bool.or_eq_true, Bool.or_eq_false_iff, Bool.and_eq_false_imp, decide_eq_true_eq, decide_eq_false_iff_not, beq_iff_eq, bne_iff_ne, bne_eq_false_iff_eq, ne_eq] at hp; omega)), (by first | omega | (simp only [List.length_take, List.length_drop, List.length_append, List.length_cons, List.length_nil, List.length_set, Nat.zero_add]; omega) | (simp only [cond_true, cond_false, Bool.not_eq_true', Bool.not_eq_false', Bool.and_eq_true, Bool.or_eq_true, Bool.or_eq_false_iff, Bool.and_eq_false_imp, decide_eq_true_eq, decide_eq_false_iff_not, beq_iff_eq, bne_iff_ne, bne_eq_false_iff_eq, ne_eq] at hp; omega))⟩) rfl rfl rfl rfl ?_)
    first | (refine FA.op (O.fieldAddrR rfl rfl) rfl rfl rfl rfl ?_) | (refine FA.op (O.fieldAddr rfl rfl) rfl rfl rfl rfl ?_)
    first | (refine FA.op (O.loadR rfl rfl (by first | rfl | exact at2 (by assumption) | exact at3 (by assumption) | assumption)) rfl rfl rfl rfl ?_) | (refine FA.op (O.load rfl rfl (by repeat (first | exact List.Mem.head _ | refine List.Mem.tail _ ?_)) (by first | rfl | exact at2 (by assumption) | exact at3 (by assumption) | assumption)) rfl rfl rfl rfl ?_)
    first | (refine FA.op (O.loadR rfl rfl (by first | rfl | exact at2 (by assumption) | exact at3 (by assumption) | assumption)) rfl rfl rfl rfl ?_) | (refine FA.op (O.load rfl rfl (by repeat (first | exact List.Mem.head _ | refine List.Mem.tail _ ?_)) (by first | rfl | exact at2 (by assumption) | exact at3 (by assumption) | assumption)) rfl rfl rfl rfl ?_)
    first | (refine FA.op (O.call rfl Tryz.func46 rfl rfl rfl (equal_fn _ _)) rfl rfl rfl rfl ?_) | (refine FA.op (O.callC rfl Tryz.func46 rfl rfl rfl (equal_fn _ _) (by (repeat (first | exact CoeL.nil | refine CoeL.cons Coe.rfl ?_ | refine CoeL.cons Coe.nil ?_ | refine CoeL.cons Coe.unfull ?_ | refine CoeL.cons (Coe.agg ?_) ?_ | refine CoeL.cons (Coe.tup ?_) ?_ | refine CoeL.cons (Coe.ro ?_) ?_)); first | done | fail)) rfl rfl rfl rfl ?_) | (refine FA.op (O.callL rfl Tryz.func46 rfl rfl rfl (by repeat (first | exact List.Mem.head _ | refine List.Mem.tail _ ?_)) (equal_fn _ _) (by (repeat (first | exact LendL.nil | refine LendL.same ?_ | refine LendL.lend ?_)); first | done | fail)) rfl rfl rfl rfl ?_)
    refine FA.nil ?_
    simp only [chosen, List.nil_append, List.cons_append, List.append_nil]
    refine AO.nil ?_
    refine AQ.thenN ?_
    refine AW.split rfl (fun hk => ?_) (fun hk => ?_)
    · skip
      have hk : ((wat ws i).key == key) = true := by rw [← hw]; exact hk
      refine AW.region ?_
      refine AO.op (O.move rfl rfl) rfl rfl rfl ?_
      refine AO.op (O.move rfl rfl) rfl rfl rfl ?_
      refine AO.op (O.move rfl rfl) rfl rfl rfl ?_
      refine AO.op (O.move rfl rfl) rfl rfl rfl ?_
      first | (refine AO.op (O.idxR rfl rfl rfl ⟨(by first | omega | (simp only [List.length_take, List.length_drop, List.length_append, List.length_cons, List.length_nil, List.length_set, Nat.zero_add]; omega) | (simp only [cond_true, cond_false, Bool.not_eq_true', Bool.not_eq_false', Bool.and_eq_true, Bool.or_eq_true, Bool.or_eq_false_iff, Bool.and_eq_false_imp, decide_eq_true_eq, decide_eq_false_iff_not, beq_iff_eq, bne_iff_ne, bne_eq_false_iff_eq, ne_eq] at hp; omega)), (by first | omega | (simp only [List.length_take, List.length_drop, List.length_append, List.length_cons, List.length_nil, List.length_set, Nat.zero_add]; omega) | (simp only [cond_true, cond_false, Bool.not_eq_true', Bool.not_eq_false', Bool.and_eq_true, Bool.or_eq_true, Bool.or_eq_false_iff, Bool.and_eq_false_imp, decide_eq_true_eq, decide_eq_false_iff_not, beq_iff_eq, bne_iff_ne, bne_eq_false_iff_eq, ne_eq] at hp; omega))⟩) rfl rfl rfl ?_) | (refine AO.op (O.idxV rfl rfl rfl ⟨(by first | omega | (simp only [List.length_take, List.length_drop, List.length_append, List.length_cons, List.length_nil, List.length_set, Nat.zero_add]; omega) | (simp only [cond_true, cond_false, Bool.not_eq_true', Bool.not_eq_false', Bool.and_eq_true, Bool.or_eq_true, Bool.or_eq_false_iff, Bool.and_eq_false_imp, decide_eq_true_eq, decide_eq_false_iff_not, beq_iff_eq, bne_iff_ne, bne_eq_false_iff_eq, ne_eq] at hp; omega)), (by first | omega | (simp only [List.length_take, List.length_drop, List.length_append, List.length_cons, List.length_nil, List.length_set, Nat.zero_add]; omega) | (simp only [cond_true, cond_false, Bool.not_eq_true', Bool.not_eq_false', Bool.and_eq_true, Bool.or_eq_true, Bool.or_eq_false_iff, Bool.and_eq_false_imp, decide_eq_true_eq, decide_eq_false_iff_not, beq_iff_eq, bne_iff_ne, bne_eq_false_iff_eq, ne_eq] at hp; omega))⟩) rfl rfl rfl ?_)
      first | (refine AO.op (O.fieldAddrR rfl rfl) rfl rfl rfl ?_) | (refine AO.op (O.fieldAddr rfl rfl) rfl rfl rfl ?_)
      first | (refine AO.op (O.loadR rfl rfl (by first | rfl | exact at2 (by assumption) | exact at3 (by assumption) | assumption)) rfl rfl rfl ?_) | (refine AO.op (O.load rfl rfl (by repeat (first | exact List.Mem.head _ | refine List.Mem.tail _ ?_)) (by first | rfl | exact at2 (by assumption) | exact at3 (by assumption) | assumption)) rfl rfl rfl ?_)
      refine AO.op (O.add rfl rfl rfl (by first | exact wI64 (by omega) | rfl)) rfl rfl rfl ?_
      refine AO.op (O.rem rfl rfl rfl (by omega) rfl) rfl rfl rfl ?_
      first | (refine AO.op (O.idxR rfl rfl rfl ⟨(by first | omega | (simp only [List.length_take, List.length_drop, List.length_append, List.length_cons, List.length_nil, List.length_set, Nat.zero_add]; omega) | (simp only [cond_true, cond_false, Bool.not_eq_true', Bool.not_eq_false', Bool.and_eq_true, Bool.or_eq_true, Bool.or_eq_false_iff, Bool.and_eq_false_imp, decide_eq_true_eq, decide_eq_false_iff_not, beq_iff_eq, bne_iff_ne, bne_eq_false_iff_eq, ne_eq] at hp; omega)), (by first | omega | (simp only [List.length_take, List.length_drop, List.length_append, List.length_cons, List.length_nil, List.length_set, Nat.zero_add]; omega) | (simp only [cond_true, cond_false, Bool.not_eq_true', Bool.not_eq_false', Bool.and_eq_true, Bool.or_eq_true, Bool.or_eq_false_iff, Bool.and_eq_false_imp, decide_eq_true_eq, decide_eq_false_iff_not, beq_iff_eq, bne_iff_ne, bne_eq_false_iff_eq, ne_eq] at hp; omega))⟩) rfl rfl rfl ?_) | (refine AO.op (O.idxV rfl rfl rfl ⟨(by first | omega | (simp only [List.length_take, List.length_drop, List.length_append, List.length_cons, List.length_nil, List.length_set, Nat.zero_add]; omega) | (simp only [cond_true, cond_false, Bool.not_eq_true', Bool.not_eq_false', Bool.and_eq_true, Bool.or_eq_true, Bool.or_eq_false_iff, Bool.and_eq_false_imp, decide_eq_true_eq, decide_eq_false_iff_not, beq_iff_eq, bne_iff_ne, bne_eq_false_iff_eq, ne_eq] at hp; omega)), (by first | omega | (simp only [List.length_take, List.length_drop, List.length_append, List.length_cons, List.length_nil, List.length_set, Nat.zero_add]; omega) | (simp only [cond_true, cond_false, Bool.not_eq_true', Bool.not_eq_false', Bool.and_eq_true, Bool.or_eq_true, Bool.or_eq_false_iff, Bool.and_eq_false_imp, decide_eq_true_eq, decide_eq_false_iff_not, beq_iff_eq, bne_iff_ne, bne_eq_false_iff_eq, ne_eq] at hp; omega))⟩) rfl rfl rfl ?_)
      first | (refine AO.op (O.fieldAddrR rfl rfl) rfl rfl rfl ?_) | (refine AO.op (O.fieldAddr rfl rfl) rfl rfl rfl ?_)
      first | (refine AO.store (i := 0) rfl rfl rfl rfl rfl rfl (by first | rfl | assumption | (simp [AV.cells, AV.one, *]; done) | (simp [AV.cells, AV.one, roB, roI, roO, show ∀ k z, (Value.int k z).oneCell' = true from fun _ _ => rfl, show ∀ k, (Value.bool k).oneCell' = true from fun _ => rfl, *]; done) | simp [AV.cells, AV.one, Value.oneCell', *]) (by rfl) (by first | rfl | exact Nat.ble_eq_true_of_le (by rw [watchesA_length]; omega)) (by first | exact spliceW (by assumption) | rfl) (by first | (dsimp only [List.set, List.append, List.cons_append, List.nil_append, splice, ofConst, AV.cells, List.map, List.map_cons, List.map_nil, List.take, List.drop, Nat.zero_add, Nat.add_zero, Nat.reduceAdd, Nat.reduceMul, Nat.zero_mul, Value.cells, List.toList_toArray, zerosA, List.replicate, List.flatten, List.append_nil]; rfl) | (dsimp only [List.set, List.append, List.cons_append, List.nil_append, splice, ofConst, AV.cells, List.map, List.map_cons, List.map_nil, List.take, List.drop, Nat.zero_add, Nat.add_zero, Nat.reduceAdd, Nat.reduceMul, Nat.zero_mul, Value.cells, List.toList_toArray, zerosA, List.replicate, List.flatten, List.append_nil]; done) | rfl) ?_) | (refine AO.store (i := 1) rfl rfl rfl rfl rfl rfl (by first | rfl | assumption | (simp [AV.cells, AV.one, *]; done) | (simp [AV.cells, AV.one, roB, roI, roO, show ∀ k z, (Value.int k z).oneCell' = true from fun _ _ => rfl, show ∀ k, (Value.bool k).oneCell' = true from fun _ => rfl, *]; done) | simp [AV.cells, AV.one, Value.oneCell', *]) (by rfl) (by first | rfl | exact Nat.ble_eq_true_of_le (by rw [watchesA_length]; omega)) (by first | exact spliceW (by assumption) | rfl) (by first | (dsimp only [List.set, List.append, List.cons_append, List.nil_append, splice, ofConst, AV.cells, List.map, List.map_cons, List.map_nil, List.take, List.drop, Nat.zero_add, Nat.add_zero, Nat.reduceAdd, Nat.reduceMul, Nat.zero_mul, Value.cells, List.toList_toArray, zerosA, List.replicate, List.flatten, List.append_nil]; rfl) | (dsimp only [List.set, List.append, List.cons_append, List.nil_append, splice, ofConst, AV.cells, List.map, List.map_cons, List.map_nil, List.take, List.drop, Nat.zero_add, Nat.add_zero, Nat.reduceAdd, Nat.reduceMul, Nat.zero_mul, Value.cells, List.toList_toArray, zerosA, List.replicate, List.flatten, List.append_nil]; done) | rfl) ?_) | (refine AO.store (i := 2) rfl rfl rfl rfl rfl rfl (by first | rfl | assumption | (simp [AV.cells, AV.one, *]; done) | (simp [AV.cells, AV.one, roB, roI, roO, show ∀ k z, (Value.int k z).oneCell' = true from fun _ _ => rfl, show ∀ k, (Value.bool k).oneCell' = true from fun _ => rfl, *]; done) | simp [AV.cells, AV.one, Value.oneCell', *]) (by rfl) (by first | rfl | exact Nat.ble_eq_true_of_le (by rw [watchesA_length]; omega)) (by first | exact spliceW (by assumption) | rfl) (by first | (dsimp only [List.set, List.append, List.cons_append, List.nil_append, splice, ofConst, AV.cells, List.map, List.map_cons, List.map_nil, List.take, List.drop, Nat.zero_add, Nat.add_zero, Nat.reduceAdd, Nat.reduceMul, Nat.zero_mul, Value.cells, List.toList_toArray, zerosA, List.replicate, List.flatten, List.append_nil]; rfl) | (dsimp only [List.set, List.append, List.cons_append, List.nil_append, splice, ofConst, AV.cells, List.map, List.map_cons, List.map_nil, List.take, List.drop, Nat.zero_add, Nat.add_zero, Nat.reduceAdd, Nat.reduceMul, Nat.zero_mul, Value.cells, List.toList_toArray, zerosA, List.replicate, List.flatten, List.append_nil]; done) | rfl) ?_) | (refine AO.store (i := 3) rfl rfl rfl rfl rfl rfl (by first | rfl | assumption | (simp [AV.cells, AV.one, *]; done) | (simp [AV.cells, AV.one, roB, roI, roO, show ∀ k z, (Value.int k z).oneCell' = true from fun _ _ => rfl, show ∀ k, (Value.bool k).oneCell' = true from fun _ => rfl, *]; done) | simp [AV.cells, AV.one, Value.oneCell', *]) (by rfl) (by first | rfl | exact Nat.ble_eq_true_of_le (by rw [watchesA_length]; omega)) (by first | exact spliceW (by assumption) | rfl) (by first | (dsimp only [List.set, List.append, List.cons_append, List.nil_append, splice, ofConst, AV.cells, List.map, List.map_cons, List.map_nil, List.take, List.drop, Nat.zero_add, Nat.add_zero, Nat.reduceAdd, Nat.reduceMul, Nat.zero_mul, Value.cells, List.toList_toArray, zerosA, List.replicate, List.flatten, List.append_nil]; rfl) | (dsimp only [List.set, List.append, List.cons_append, List.nil_append, splice, ofConst, AV.cells, List.map, List.map_cons, List.map_nil, List.take, List.drop, Nat.zero_add, Nat.add_zero, Nat.reduceAdd, Nat.reduceMul, Nat.zero_mul, Value.cells, List.toList_toArray, zerosA, List.replicate, List.flatten, List.append_nil]; done) | rfl) ?_) | (refine AO.store (i := 4) rfl rfl rfl rfl rfl rfl (by first | rfl | assumption | (simp [AV.cells, AV.one, *]; done) | (simp [AV.cells, AV.one, roB, roI, roO, show ∀ k z, (Value.int k z).oneCell' = true from fun _ _ => rfl, show ∀ k, (Value.bool k).oneCell' = true from fun _ => rfl, *]; done) | simp [AV.cells, AV.one, Value.oneCell', *]) (by rfl) (by first | rfl | exact Nat.ble_eq_true_of_le (by rw [watchesA_length]; omega)) (by first | exact spliceW (by assumption) | rfl) (by first | (dsimp only [List.set, List.append, List.cons_append, List.nil_append, splice, ofConst, AV.cells, List.map, List.map_cons, List.map_nil, List.take, List.drop, Nat.zero_add, Nat.add_zero, Nat.reduceAdd, Nat.reduceMul, Nat.zero_mul, Value.cells, List.toList_toArray, zerosA, List.replicate, List.flatten, List.append_nil]; rfl) | (dsimp only [List.set, List.append, List.cons_append, List.nil_append, splice, ofConst, AV.cells, List.map, List.map_cons, List.map_nil, List.take, List.drop, Nat.zero_add, Nat.add_zero, Nat.reduceAdd, Nat.reduceMul, Nat.zero_mul, Value.cells, List.toList_toArray, zerosA, List.replicate, List.flatten, List.append_nil]; done) | rfl) ?_) | (refine AO.store (i := 5) rfl rfl rfl rfl rfl rfl (by first | rfl | assumption | (simp [AV.cells, AV.one, *]; done) | (simp [AV.cells, AV.one, roB, roI, roO, show ∀ k z, (Value.int k z).oneCell' = true from fun _ _ => rfl, show ∀ k, (Value.bool k).oneCell' = true from fun _ => rfl, *]; done) | simp [AV.cells, AV.one, Value.oneCell', *]) (by rfl) (by first | rfl | exact Nat.ble_eq_true_of_le (by rw [watchesA_length]; omega)) (by first | exact spliceW (by assumption) | rfl) (by first | (dsimp only [List.set, List.append, List.cons_append, List.nil_append, splice, ofConst, AV.cells, List.map, List.map_cons, List.map_nil, List.take, List.drop, Nat.zero_add, Nat.add_zero, Nat.reduceAdd, Nat.reduceMul, Nat.zero_mul, Value.cells, List.toList_toArray, zerosA, List.replicate, List.flatten, List.append_nil]; rfl) | (dsimp only [List.set, List.append, List.cons_append, List.nil_append, splice, ofConst, AV.cells, List.map, List.map_cons, List.map_nil, List.take, List.drop, Nat.zero_add, Nat.add_zero, Nat.reduceAdd, Nat.reduceMul, Nat.zero_mul, Value.cells, List.toList_toArray, zerosA, List.replicate, List.flatten, List.append_nil]; done) | rfl) ?_) | (refine AO.store (i := 6) rfl rfl rfl rfl rfl rfl (by first | rfl | assumption | (simp [AV.cells, AV.one, *]; done) | (simp [AV.cells, AV.one, roB, roI, roO, show ∀ k z, (Value.int k z).oneCell' = true from fun _ _ => rfl, show ∀ k, (Value.bool k).oneCell' = true from fun _ => rfl, *]; done) | simp [AV.cells, AV.one, Value.oneCell', *]) (by rfl) (by first | rfl | exact Nat.ble_eq_true_of_le (by rw [watchesA_length]; omega)) (by first | exact spliceW (by assumption) | rfl) (by first | (dsimp only [List.set, List.append, List.cons_append, List.nil_append, splice, ofConst, AV.cells, List.map, List.map_cons, List.map_nil, List.take, List.drop, Nat.zero_add, Nat.add_zero, Nat.reduceAdd, Nat.reduceMul, Nat.zero_mul, Value.cells, List.toList_toArray, zerosA, List.replicate, List.flatten, List.append_nil]; rfl) | (dsimp only [List.set, List.append, List.cons_append, List.nil_append, splice, ofConst, AV.cells, List.map, List.map_cons, List.map_nil, List.take, List.drop, Nat.zero_add, Nat.add_zero, Nat.reduceAdd, Nat.reduceMul, Nat.zero_mul, Value.cells, List.toList_toArray, zerosA, List.replicate, List.flatten, List.append_nil]; done) | rfl) ?_) | (refine AO.store (i := 7) rfl rfl rfl rfl rfl rfl (by first | rfl | assumption | (simp [AV.cells, AV.one, *]; done) | (simp [AV.cells, AV.one, roB, roI, roO, show ∀ k z, (Value.int k z).oneCell' = true from fun _ _ => rfl, show ∀ k, (Value.bool k).oneCell' = true from fun _ => rfl, *]; done) | simp [AV.cells, AV.one, Value.oneCell', *]) (by rfl) (by first | rfl | exact Nat.ble_eq_true_of_le (by rw [watchesA_length]; omega)) (by first | exact spliceW (by assumption) | rfl) (by first | (dsimp only [List.set, List.append, List.cons_append, List.nil_append, splice, ofConst, AV.cells, List.map, List.map_cons, List.map_nil, List.take, List.drop, Nat.zero_add, Nat.add_zero, Nat.reduceAdd, Nat.reduceMul, Nat.zero_mul, Value.cells, List.toList_toArray, zerosA, List.replicate, List.flatten, List.append_nil]; rfl) | (dsimp only [List.set, List.append, List.cons_append, List.nil_append, splice, ofConst, AV.cells, List.map, List.map_cons, List.map_nil, List.take, List.drop, Nat.zero_add, Nat.add_zero, Nat.reduceAdd, Nat.reduceMul, Nat.zero_mul, Value.cells, List.toList_toArray, zerosA, List.replicate, List.flatten, List.append_nil]; done) | rfl) ?_) | (refine AO.store (i := 8) rfl rfl rfl rfl rfl rfl (by first | rfl | assumption | (simp [AV.cells, AV.one, *]; done) | (simp [AV.cells, AV.one, roB, roI, roO, show ∀ k z, (Value.int k z).oneCell' = true from fun _ _ => rfl, show ∀ k, (Value.bool k).oneCell' = true from fun _ => rfl, *]; done) | simp [AV.cells, AV.one, Value.oneCell', *]) (by rfl) (by first | rfl | exact Nat.ble_eq_true_of_le (by rw [watchesA_length]; omega)) (by first | exact spliceW (by assumption) | rfl) (by first | (dsimp only [List.set, List.append, List.cons_append, List.nil_append, splice, ofConst, AV.cells, List.map, List.map_cons, List.map_nil, List.take, List.drop, Nat.zero_add, Nat.add_zero, Nat.reduceAdd, Nat.reduceMul, Nat.zero_mul, Value.cells, List.toList_toArray, zerosA, List.replicate, List.flatten, List.append_nil]; rfl) | (dsimp only [List.set, List.append, List.cons_append, List.nil_append, splice, ofConst, AV.cells, List.map, List.map_cons, List.map_nil, List.take, List.drop, Nat.zero_add, Nat.add_zero, Nat.reduceAdd, Nat.reduceMul, Nat.zero_mul, Value.cells, List.toList_toArray, zerosA, List.replicate, List.flatten, List.append_nil]; done) | rfl) ?_) | (refine AO.store (i := 9) rfl rfl rfl rfl rfl rfl (by first | rfl | assumption | (simp [AV.cells, AV.one, *]; done) | (simp [AV.cells, AV.one, roB, roI, roO, show ∀ k z, (Value.int k z).oneCell' = true from fun _ _ => rfl, show ∀ k, (Value.bool k).oneCell' = true from fun _ => rfl, *]; done) | simp [AV.cells, AV.one, Value.oneCell', *]) (by rfl) (by first | rfl | exact Nat.ble_eq_true_of_le (by rw [watchesA_length]; omega)) (by first | exact spliceW (by assumption) | rfl) (by first | (dsimp only [List.set, List.append, List.cons_append, List.nil_append, splice, ofConst, AV.cells, List.map, List.map_cons, List.map_nil, List.take, List.drop, Nat.zero_add, Nat.add_zero, Nat.reduceAdd, Nat.reduceMul, Nat.zero_mul, Value.cells, List.toList_toArray, zerosA, List.replicate, List.flatten, List.append_nil]; rfl) | (dsimp only [List.set, List.append, List.cons_append, List.nil_append, splice, ofConst, AV.cells, List.map, List.map_cons, List.map_nil, List.take, List.drop, Nat.zero_add, Nat.add_zero, Nat.reduceAdd, Nat.reduceMul, Nat.zero_mul, Value.cells, List.toList_toArray, zerosA, List.replicate, List.flatten, List.append_nil]; done) | rfl) ?_)
      refine AO.nil ?_
      refine AQ.blockN ?_
      refine AQ.thenN ?_
      refine AW.region ?_
      refine AO.op (O.add rfl rfl rfl (by first | exact wI64 (by omega) | rfl)) rfl rfl rfl ?_
      refine AO.op (O.move rfl rfl) rfl rfl rfl ?_
      refine AO.nil ?_
      refine AQ.g ?_
      refine G.closeRow (b := b') (n := ws.length) 0 rfl (by rw [watchesA_length, List.length_set, hln]) rfl hc1 hc2 ?_
      refine AQ.u ?_
      refine AQ.loopN _ _ _ (by omega) (⟨i + 1, by omega, rfl, rfl, by rw [nTo_succ hlt, tell, if_pos hk, ← hw] <;> rfl⟩) (by repeat (first | exact envNil | refine envCons rfl ?_)) ⟨_, by repeat (first | exact List.Sublist.slnil | refine List.Sublist.cons_cons _ ?_ | refine List.Sublist.cons _ ?_), List.Perm.refl _⟩
    · skip
      have hk : ¬ ((wat ws i).key == key) = true := by rw [← hw, hk]; simp
      refine AW.skip ?_
      refine AQ.blockN ?_
      refine AQ.thenN ?_
      refine AW.region ?_
      refine AO.op (O.add rfl rfl rfl (by first | exact wI64 (by omega) | rfl)) rfl rfl rfl ?_
      refine AO.op (O.move rfl rfl) rfl rfl rfl ?_
      refine AO.nil ?_
      refine AQ.g ?_
      refine G.closeRow (b := b') (n := ws.length) 0 rfl hxs rfl hc1 hc2 ?_
      refine AQ.u ?_
      refine AQ.loopN _ _ _ (by omega) (⟨i + 1, by omega, rfl, rfl, by rw [nTo_same hlt hk]⟩) (by repeat (first | exact envNil | refine envCons rfl ?_)) ⟨_, by repeat (first | exact List.Sublist.slnil | refine List.Sublist.cons_cons _ ?_ | refine List.Sublist.cons _ ?_), List.Perm.refl _⟩
  · skip
    have hlt : i = ws.length := by have := of_decide_eq_false hlt; omega
    subst hlt
    rw [nTo_all]
    refine AW.g ?_
    refine G.freezeRow 0 rfl [6] (by repeat (first | exact frNil | refine frCons rfl ?_)) ?_
    refine AW.u ?_
    have e : AV.ro false ws.length (watchesA (notW ws key)) = roW (notW ws key) := by simp [roW, notW]
    refine AW.g ?_
    refine G.re 6 (roW (notW ws key)) (by rw [← e]; rfl) ?_
    refine AW.u ?_
    refine AW.exit ?_
    refine AQ.thenX ?_
    refine AQ.loopX ?_
    refine AQ.blockX rfl ?_
    refine AQ.thenN ?_
    refine AW.seq ?_
    refine AW.region ?_
    refine AO.op (O.move rfl rfl) rfl rfl rfl ?_
    refine AO.op (O.move rfl rfl) rfl rfl rfl ?_
    refine AO.g ?_
    first | (refine G.freezePtr 0 3 rfl rfl ?_) | (refine G.freezePtr 1 3 rfl rfl ?_) | (refine G.freezePtr 2 3 rfl rfl ?_) | (refine G.freezePtr 3 3 rfl rfl ?_) | (refine G.freezePtr 4 3 rfl rfl ?_) | (refine G.freezePtr 5 3 rfl rfl ?_) | (refine G.freezePtr 6 3 rfl rfl ?_) | (refine G.freezePtr 7 3 rfl rfl ?_)
    refine AO.u ?_
    dsimp only [List.eraseIdx]
    refine AO.op (O.fn rfl rfl) rfl rfl rfl ?_
    first | (refine AO.opRow (O.call rfl Tryz.func41 rfl rfl rfl (HF1)) rfl rfl rfl ?_) | (refine AO.opRow (O.call rfl Tryz.func41 rfl rfl rfl (HF2)) rfl rfl rfl ?_) | (refine AO.opRow (O.callC rfl Tryz.func41 rfl rfl rfl (HF1) (by (repeat (first | exact CoeL.nil | refine CoeL.cons Coe.rfl ?_ | refine CoeL.cons Coe.nil ?_ | refine CoeL.cons Coe.unfull ?_ | refine CoeL.cons (Coe.agg ?_) ?_ | refine CoeL.cons (Coe.tup ?_) ?_ | refine CoeL.cons (Coe.ro ?_) ?_)); first | done | fail)) rfl rfl rfl ?_) | (refine AO.opRow (O.callC rfl Tryz.func41 rfl rfl rfl (HF2) (by (repeat (first | exact CoeL.nil | refine CoeL.cons Coe.rfl ?_ | refine CoeL.cons Coe.nil ?_ | refine CoeL.cons Coe.unfull ?_ | refine CoeL.cons (Coe.agg ?_) ?_ | refine CoeL.cons (Coe.tup ?_) ?_ | refine CoeL.cons (Coe.ro ?_) ?_)); first | done | fail)) rfl rfl rfl ?_)
    intro V hV
    refine AO.op (O.assign rfl rfl) rfl rfl rfl ?_
    refine AO.op (O.assign rfl rfl) rfl rfl rfl ?_
    refine AO.nil ?_
    refine AQ.thenN ?_
    refine AW.ret ?_
    refine AQ.g ?_
    first | (refine G.freezeRow 0 rfl [5] (by repeat (first | exact frNil | refine frCons rfl ?_)) ?_) | (refine G.freezeRow 1 rfl [5] (by repeat (first | exact frNil | refine frCons rfl ?_)) ?_) | (refine G.freezeRow 2 rfl [5] (by repeat (first | exact frNil | refine frCons rfl ?_)) ?_) | (refine G.freezeRow 3 rfl [5] (by repeat (first | exact frNil | refine frCons rfl ?_)) ?_) | (refine G.freezeRow 4 rfl [5] (by repeat (first | exact frNil | refine frCons rfl ?_)) ?_)
    refine AQ.u ?_
    dsimp only [List.map, List.eraseIdx, List.cons_append, List.nil_append]
    refine AQ.ret2 rfl rfl rfl ⟨_, List.nil_sublist _, .nil⟩ (⟨rfl, rfl⟩)

def rTo (ws : List Watch) (key : List UInt8) (i : Nat) : List Watch := (ws.take i).map (tell key)
def kTo (ws : List Watch) (key : List UInt8) (i : Nat) : List Watch := (rTo ws key i).filter fun w => w.key == key
end Go.Proofs.YtoonnnifelnaiaaGreatDoor.Ob

namespace Go.Proofs.YtoonnnifelnaiaaGreatDoor.By
open Go.RowKit L A
set_option linter.unusedVariables false
set_option maxRecDepth 20000
set_option linter.unusedSimpArgs false
attribute [local irreducible] AW AQ AO
abbrev wcA (s : Int) : List AV := [.val (.int .i64 1), roB [9], roB [1], .val (.int .i64 s), .val (.int .i64 0)]
abbrev wA (s : Int) : AV := .ro false 1 (wcA s)
abbrev wO (s : Int) : Ob.Watch := ⟨1, [9], [1], s, 0⟩
theorem wO_short (s : Int) : Ob.Short [wO s] := ⟨by simp, fun w hw => by obtain rfl := List.mem_singleton.1 hw; exact ⟨by simp, by simp⟩⟩
theorem notifyO_fn (s : Int) (hs : 0 ≤ s ∧ s < 16777216) : Sp Tryz.prog 14 [wA s, roB [1]] [] (Is (.tup [wA ((s + 1) % 16777216), wA ((s + 1) % 16777216)])) := by
  have h := Ob.notify_fn [wO s] (wO_short s) (fun w hw => by obtain rfl := List.mem_singleton.1 hw; exact hs) [1]
  have e : Ob.nextS s = (s + 1) % 16777216 := by unfold Ob.nextS; rw [Int.tmod_eq_emod_of_nonneg (by omega)]
  have e1 : Ob.notW [wO s] [1] = [wO ((s + 1) % 16777216)] := by
    rw [← e]; rfl
  have e2 : Ob.toldW [wO s] [1] = [wO ((s + 1) % 16777216)] := by
    unfold Ob.toldW; rw [e1]; rfl
  rw [e1, e2] at h
  exact h
theorem newerO_fn (a b c d : Int) (h : 0 ≤ a ∧ a < 16777216 ∧ 0 ≤ c ∧ c < 16777216 ∧ -4611686018427387904 ≤ b ∧ b ≤ 4611686018427387903 ∧ -4611686018427387904 ≤ d ∧ d ≤ 4611686018427387903) : Sp Tryz.prog 19 [.val (.int .i64 a), .val (.int .i64 b), .val (.int .i64 c), .val (.int .i64 d)] [] (Is (.val (.bool (newerT a b c d)))) := Ob.newer_fn a b c d h
/-- The first registration: a row of its own. -/
def RegP : AV → List HE → Prop := fun q H' => ∃ V : Value, V.oneCell' = true ∧ q = .tup [.val V, .val (.int .i64 0)] ∧ H' = [.row V 34 5 1 (wcA 0)]
theorem reg0_fn : Sp Tryz.prog 10 [.ro false 0 [], .val (.int .i64 1), roB [9], roB [1], .val (.int .i64 0)] [] RegP := by
  have hval : Sp Tryz.prog 39 [.ro false 0 []] [] (Is (.val (.bool true))) := Ob.valid_fn []
  have hsound : Sp Tryz.prog 40 [.agg (wcA 0)] [] (Is (.val (.bool true))) := Ob.sound_fn 1 [9] [1] 0 0
  have hfil : Sp Tryz.prog 41 [.ro false 0 [], .fn (.func 42) [.rp (wcA 0) 0]] [] (NewRow 34 5 0 []) := Ob.filter_fn [] ⟨by simp, by simp⟩ (fun w => !Ob.meetsB w.peer w.tok w.key 1 [9] [1]) _ [.rp (wcA 0) 0] _ Tryz.func42 rfl rfl (fun p' tk' ky' s' t' => Ob.c1_fn p' tk' ky' s' t' 1 [9] [1] 0 0)
  have hown : Sp Tryz.prog 44 [.agg (wcA 0)] [] (Is (.agg (wcA 0))) := Ob.owned_fn 1 [9] [1] 0 0 (by simp) (by simp)
  refine Sp.enter Tryz.func10 rfl _ Tryz.ntmps10 rfl (fun w0 R0 => ?_)
  refine AW.seq ?_
  refine AW.region ?_
  refine AO.op (O.assign rfl rfl) rfl rfl rfl ?_
  refine AO.op (O.assign rfl rfl) rfl rfl rfl ?_
  refine AO.nil ?_
  refine AQ.thenN ?_
  refine AW.seq ?_
  refine AW.region ?_
  refine AO.op (O.move rfl rfl) rfl rfl rfl ?_
  refine AO.op (O.move rfl rfl) rfl rfl rfl ?_
  refine AO.op (O.move rfl rfl) rfl rfl rfl ?_
  refine AO.op (O.move rfl rfl) rfl rfl rfl ?_
  refine AO.op (O.build rfl rfl rfl (by rfl)) rfl rfl rfl ?_
  refine AO.opB (O.alloc rfl (by (dsimp only [zerosA, List.replicate, List.append, List.flatten, AV.cells, Value.cells, List.toList_toArray, List.map]; done)) (by rfl)) rfl rfl rfl ?_
  intro B1
  (refine AO.store (i := 0) rfl rfl rfl rfl rfl rfl (by rfl) (by rfl) (by rfl) (by (dsimp only [List.set, List.cons_append, List.nil_append, List.take, List.drop]; done)) (by (dsimp only [List.set, List.cons_append, List.nil_append, List.take, List.drop]; done)) ?_)
  refine AO.nil ?_
  refine AQ.thenN ?_
  refine AW.seq ?_
  refine AW.seq ?_
  refine AW.region ?_
  refine AO.op (O.move rfl rfl) rfl rfl rfl ?_
  refine AO.op (O.call rfl Tryz.func39 rfl rfl rfl (hval)) rfl rfl rfl ?_
  refine AO.op (O.not rfl rfl (by rfl)) rfl rfl rfl ?_
  refine AO.op (O.move rfl rfl) rfl rfl rfl ?_
  (refine AO.op (O.loadK rfl rfl (by repeat (exact List.Mem.head _)) (by (dsimp only [List.set, List.cons_append, List.nil_append, List.take, List.drop]; done)) (by rfl)) rfl rfl rfl ?_)
  refine AO.op (O.call rfl Tryz.func40 rfl rfl rfl (hsound)) rfl rfl rfl ?_
  refine AO.op (O.not rfl rfl (by rfl)) rfl rfl rfl ?_
  refine AO.op (O.pickF rfl rfl rfl) rfl rfl rfl ?_
  refine AO.nil ?_
  refine AQ.thenN ?_
  refine AW.condF rfl ?_
  refine AW.skip ?_
  refine AQ.thenN ?_
  refine AW.seq ?_
  refine AW.region ?_
  refine AO.op (O.move rfl rfl) rfl rfl rfl ?_
  refine AO.g ?_
  refine G.freezePtr 0 12 rfl rfl ?_
  refine AO.u ?_
  dsimp only [List.eraseIdx]
  refine AO.op (O.fn rfl rfl) rfl rfl rfl ?_
  refine AO.opRow (O.call rfl Tryz.func41 rfl rfl rfl (hfil)) rfl rfl rfl ?_
  intro V2 hV2
  refine AO.op (O.assign rfl rfl) rfl rfl rfl ?_
  refine AO.nil ?_
  refine AQ.thenN ?_
  refine AW.seq ?_
  refine AW.seq ?_
  refine AW.region ?_
  refine AO.op (O.move rfl rfl) rfl rfl rfl ?_
  refine AO.op (O.lenRow rfl rfl (by repeat (exact List.Mem.head _))) rfl rfl rfl ?_
  refine AO.op (O.geq rfl rfl rfl (by exact bFalse (by omega))) rfl rfl rfl ?_
  refine AO.nil ?_
  refine AQ.thenN ?_
  refine AW.condF rfl ?_
  refine AW.skip ?_
  refine AQ.thenN ?_
  refine AW.seq ?_
  refine AW.region ?_
  refine AO.op (O.move rfl rfl) rfl rfl rfl ?_
  (refine AO.op (O.loadRK rfl rfl (by (dsimp only [List.set, List.cons_append, List.nil_append, List.take, List.drop]; done)) (by rfl)) rfl rfl rfl ?_)
  refine AO.op (O.call rfl Tryz.func44 rfl rfl rfl (hown)) rfl rfl rfl ?_
  refine AO.opB (O.buildSlice rfl rfl rfl (by rfl) (by rfl) (by rfl) (by rfl)) rfl rfl rfl ?_
  intro B3
  refine AO.g ?_
  (refine G.freezeSl 0 36 rfl rfl ⟨Nat.le_refl _, by unfold maxLen; omega⟩ ?_)
  refine G.unfull 36 rfl ?_
  refine AO.u ?_
  dsimp only [List.eraseIdx]
  (refine AO.append' (i := 0) rfl rfl rfl rfl (by rfl) (by rfl) rfl rfl rfl (by exact SrcA.ro TyD.ax (by rfl) (Nat.le_of_ble_eq_true rfl)) (by rfl) (by (unfold maxLen; omega)) (by omega) (by (dsimp only [List.set, List.cons_append, List.nil_append, List.take, List.drop]; done)) (fun _ => by (dsimp only [List.set]; done)) ?_)
  intro V4 hV4
  refine AO.op (O.assign rfl rfl) rfl rfl rfl ?_
  refine AO.op (O.assign rfl rfl) rfl rfl rfl ?_
  refine AO.nil ?_
  refine AQ.thenN ?_
  refine AW.ret ?_
  refine AQ.ret2 rfl rfl rfl ⟨_, by repeat (first | exact List.Sublist.slnil | refine List.Sublist.cons_cons _ ?_), List.Perm.refl _⟩ (⟨V4, hV4, rfl, rfl⟩)
/-! ### Notifications -/
abbrev msgO (st : Int) (j : Nat) : Msg := ⟨1, 69, 0, [9], [⟨6, fromU (seqOf st j)⟩], [u8 (j : Int)]⟩
theorem setN_fn (st : Int) (j : Nat) : Sp Tryz.prog 15 [aggM ⟨1, 69, 0, [9], [], [u8 (j : Int)]⟩, .val (.int .i64 6), roBs [fromU (seqOf st j)]] [] (Is (aggM (msgO st j))) := by
  have hb := seqOf_in st j
  have hl := (uint_from hb.1 hb.2).2
  exact oset_fn ⟨1, 69, 0, [9], [], [u8 (j : Int)]⟩ 6 [fromU (seqOf st j)] (by simp) (by simp) (by simp) (by simp) (by simp) (fun v hv => by obtain rfl := List.mem_singleton.1 hv; omega)
theorem getN_fn (st : Int) (j : Nat) : Sp Tryz.prog 17 [aggM (msgO st j), .val (.int .i64 6)] [] (Is (.tup [roB (fromU (seqOf st j)), .val (.bool true)])) := by
  have hb := seqOf_in st j
  have hl := (uint_from hb.1 hb.2).2
  exact oget_fn (msgO st j) 6 (by simp) (fun v hv => by obtain rfl := List.mem_singleton.1 hv; show (fromU (seqOf st j)).length ≤ _; omega)
theorem uintN_fn (st : Int) (j : Nat) : Sp Tryz.prog 18 [roB (fromU (seqOf st j))] [] (Is (.tup [.val (.int .i64 (seqOf st j)), .val (.int .i64 0)])) := by
  have hb := seqOf_in st j
  have hl := uint_from hb.1 hb.2
  have h := ouint_fn (fromU (seqOf st j)) (by omega)
  rw [hl.1] at h
  exact h
theorem fromN_fn (st : Int) (j : Nat) : Sp Tryz.prog 16 [.val (.int .i64 (seqOf st j))] [] (Is (roB (fromU (seqOf st j)))) := by
  have hb := seqOf_in st j
  exact fromuint_fn _ ⟨hb.1, by omega⟩
end Go.Proofs.YtoonnnifelnaiaaGreatDoor.By

namespace Go.Proofs.YtoonnnifelnaiaaGreatDoor.A
open Go.RowKit L
set_option linter.unusedVariables false
set_option maxRecDepth 20000
set_option linter.unusedSimpArgs false
section
variable {Γ : Cx} {P : Program} {Q : Exit → Act → World → Prop} {E : Env} {H : List HE} {N : Nat} {o : Oper} {ops : Array Oper} {rest : List Oper}
end
end Go.Proofs.YtoonnnifelnaiaaGreatDoor.A

namespace Go.Proofs.YtoonnnifelnaiaaGreatDoor.By
open Go.RowKit L A Dk
set_option linter.unusedVariables false
set_option maxRecDepth 20000
set_option linter.unusedSimpArgs false
attribute [local irreducible] AW AQ AO
theorem pparse1_fn : Sp Tryz.prog 106 [.val (.string ⟨#[49]⟩), .val (.int .i64 10), .val (.int .i64 64)] [] (Is (.tup [.val (.int .u64 1), .val .nilIface])) := by
  refine Sp.enter Tryz.func106 rfl _ Tryz.ntmps106 rfl (fun w0 R0 => ?_)
  refine AW.seq ?_
  refine AW.region ?_
  refine AO.op (O.assign rfl rfl) rfl rfl rfl ?_
  refine AO.op (O.assign rfl rfl) rfl rfl rfl ?_
  refine AO.nil ?_
  refine AQ.thenN ?_
  refine AW.seq ?_
  refine AW.region ?_
  refine AO.op (O.move rfl rfl) rfl rfl rfl ?_
  refine AO.op (O.move rfl rfl) rfl rfl rfl ?_
  refine AO.op (O.move rfl rfl) rfl rfl rfl ?_
  refine AO.op (O.call rfl Tryz.func124 rfl rfl rfl (parse1_fn)) rfl rfl rfl ?_
  refine AO.op (O.move rfl rfl) rfl rfl rfl ?_
  refine AO.op (O.extract rfl rfl rfl) rfl rfl rfl ?_
  refine AO.op (O.extract rfl rfl rfl) rfl rfl rfl ?_
  refine AO.op (O.assign rfl rfl) rfl rfl rfl ?_
  refine AO.op (O.assign rfl rfl) rfl rfl rfl ?_
  refine AO.nil ?_
  refine AQ.thenN ?_
  refine AW.seq ?_
  refine AW.seq ?_
  refine AW.region ?_
  refine AO.op (O.move rfl rfl) rfl rfl rfl ?_
  refine AO.op (O.neqNilI ⟨_, Tryz.underlying175⟩ rfl rfl) rfl rfl rfl ?_
  refine AO.nil ?_
  refine AQ.thenN ?_
  refine AW.condF rfl ?_
  refine AW.skip ?_
  refine AQ.thenN ?_
  refine AW.seq ?_
  refine AW.region ?_
  refine AO.op (O.move rfl rfl) rfl rfl rfl ?_
  refine AO.op (O.assign rfl rfl) rfl rfl rfl ?_
  refine AO.op (O.assign rfl rfl) rfl rfl rfl ?_
  refine AO.nil ?_
  refine AQ.thenN ?_
  refine AW.ret ?_
  refine AQ.ret2 rfl rfl rfl ⟨_, List.nil_sublist _, .nil⟩ (⟨rfl, rfl⟩)
abbrev t1 : ByteArray := ⟨#[49, 93]⟩
abbrev t2 : ByteArray := ⟨#[93]⟩
theorem number_fn (B : Nat) : Sp Tryz.prog 103 [ptr B] [parsB B ⟨#[49, 93]⟩ 2 false] (IsM (.val (.int .u64 1)) (parsB B ⟨#[93]⟩ 2 false)) := by
  have z1 : (⟨#[49, 93]⟩ : ByteArray).size = 2 := rfl
  have x1 : (⟨#[49, 93]⟩ : ByteArray).extract 0 1 = ⟨#[49]⟩ := by decide +kernel
  have x2 : (⟨#[49, 93]⟩ : ByteArray).extract 1 (⟨#[49, 93]⟩ : ByteArray).size = ⟨#[93]⟩ := by decide +kernel
  have y1 : (⟨#[49, 93]⟩ : ByteArray).toList[(((0 : Nat) : Int)).toNat]? = some 49 := by decide +kernel
  have y2 : (⟨#[49, 93]⟩ : ByteArray).toList[(((1 : Nat) : Int)).toNat]? = some 93 := by decide +kernel
  have v1 : (((49 : UInt8).toNat : Nat) : Int) = 49 := rfl
  have v2 : (((93 : UInt8).toNat : Nat) : Int) = 93 := rfl
  refine Sp.enter Tryz.func103 rfl _ Tryz.ntmps103 rfl (fun w0 R0 => ?_)
  refine AW.seq ?_
  refine AW.region ?_
  refine AO.op (O.assign rfl rfl) rfl rfl rfl ?_
  refine AO.nil ?_
  refine AQ.thenN ?_
  refine AW.seq ?_
  refine AW.region ?_
  refine AO.op (O.assign rfl rfl) rfl rfl rfl ?_
  refine AO.nil ?_
  refine AQ.thenN ?_
  refine AW.seq ?_
  refine AW.block ?_
  refine AW.loopK [(0, _)] (fun nn E H => ∃ (k : Nat), (k ≤ 1) ∧ nn = 1 - k ∧ E = [(3, .val (.int .i64 (k : Int)))] ∧ H = [parsB B ⟨#[49, 93]⟩ 2 false]) _ (⟨0, by omega, rfl, rfl, rfl⟩) (by repeat (first | exact envNil | refine envCons rfl ?_)) (by repeat (first | exact envNil | refine envCons rfl ?_)) (by repeat (first | exact subPnil | refine subPcons 0 rfl ?_)) ?_
  rintro nn E H ⟨k, hk, rfl, rfl, rfl⟩
  dsimp only [List.cons_append, List.nil_append]
  obtain rfl | rfl : k = 0 ∨ k = 1 := by omega
  · skip
    refine AW.seq ?_
    refine AW.seq ?_
    refine AW.region ?_
    refine AO.op (O.move rfl rfl) rfl rfl rfl ?_
    refine AO.op (O.move rfl rfl) rfl rfl rfl ?_
    refine AO.op (O.nilCheck rfl rfl) rfl rfl rfl ?_
    refine AO.op (O.fieldAddr rfl rfl) rfl rfl rfl ?_
    refine AO.op (O.load rfl rfl (by repeat (exact List.Mem.head _)) (by rfl)) rfl rfl rfl ?_
    refine AO.op (O.lenS rfl rfl) rfl rfl rfl ?_
    refine AO.op (O.lss rfl rfl rfl (by exact bTrue (by omega))) rfl rfl rfl ?_
    refine AO.op (O.move rfl rfl) rfl rfl rfl ?_
    refine AO.opG rfl rfl rfl (fun hp => O.move rfl rfl) ?_
    refine AO.opG rfl rfl rfl (fun hp => OpW.force 14 rfl (by exact hp) (O.nilCheck rfl rfl)) ?_
    refine AO.opG rfl rfl rfl (fun hp => OpW.force 15 rfl (by exact hp) (O.fieldAddr rfl rfl)) ?_
    refine AO.opG rfl rfl rfl (fun hp => OpW.force 16 rfl (by exact hp) (O.load rfl rfl (by repeat (exact List.Mem.head _)) (by rfl))) ?_
    refine AO.opG rfl rfl rfl (fun hp => O.move rfl rfl) ?_
    refine AO.opG rfl rfl rfl (fun hp => OpW.force 17 rfl (by exact hp) (OpW.force 18 rfl (by exact hp) (O.indexS rfl rfl rfl ⟨by omega, by assumption⟩))) ?_
    refine AO.opG rfl rfl rfl (fun hp => OpW.force 19 rfl (by exact hp) (O.geq rfl rfl rfl (by exact bTrue (by omega)))) ?_
    refine AO.op (O.pickAnd rfl rfl rfl rfl (fun h => by exact h)) rfl rfl rfl ?_
    refine AO.op (O.move rfl rfl) rfl rfl rfl ?_
    refine AO.opG rfl rfl rfl (fun hp => O.move rfl rfl) ?_
    refine AO.opG rfl rfl rfl (fun hp => OpW.force 23 rfl (by exact hp) (O.nilCheck rfl rfl)) ?_
    refine AO.opG rfl rfl rfl (fun hp => OpW.force 24 rfl (by exact hp) (O.fieldAddr rfl rfl)) ?_
    refine AO.opG rfl rfl rfl (fun hp => OpW.force 25 rfl (by exact hp) (O.load rfl rfl (by repeat (exact List.Mem.head _)) (by rfl))) ?_
    refine AO.opG rfl rfl rfl (fun hp => O.move rfl rfl) ?_
    refine AO.opG rfl rfl rfl (fun hp => OpW.force 26 rfl (by exact hp) (OpW.force 27 rfl (by exact hp) (O.indexS rfl rfl rfl ⟨by omega, by assumption⟩))) ?_
    refine AO.opG rfl rfl rfl (fun hp => OpW.force 28 rfl (by exact hp) (O.leq rfl rfl rfl (by exact bTrue (by omega)))) ?_
    refine AO.op (O.pickAnd rfl rfl rfl rfl (fun h => by exact h)) rfl rfl rfl ?_
    refine AO.nil ?_
    refine AQ.thenN ?_
    refine AW.condT rfl ?_
    refine AW.skip ?_
    refine AQ.thenN ?_
    refine AW.block ?_
    refine AW.region ?_
    refine AO.op (O.move rfl rfl) rfl rfl rfl ?_
    refine AO.op (O.add rfl rfl rfl (by exact wI64 (by omega))) rfl rfl rfl ?_
    refine AO.op (O.assign rfl rfl) rfl rfl rfl ?_
    refine AO.nil ?_
    refine AQ.blockN ?_
    refine AQ.loopKN _ _ _ (by omega) (⟨1, by omega, rfl, rfl, rfl⟩) (by repeat (first | exact envNil | refine envCons rfl ?_)) (by repeat (first | exact envNil | refine envCons rfl ?_)) (by repeat (first | exact subPnil | refine subPcons 0 rfl ?_))
  · skip
    refine AW.seq ?_
    refine AW.seq ?_
    refine AW.region ?_
    refine AO.op (O.move rfl rfl) rfl rfl rfl ?_
    refine AO.op (O.move rfl rfl) rfl rfl rfl ?_
    refine AO.op (O.nilCheck rfl rfl) rfl rfl rfl ?_
    refine AO.op (O.fieldAddr rfl rfl) rfl rfl rfl ?_
    refine AO.op (O.load rfl rfl (by repeat (exact List.Mem.head _)) (by rfl)) rfl rfl rfl ?_
    refine AO.op (O.lenS rfl rfl) rfl rfl rfl ?_
    refine AO.op (O.lss rfl rfl rfl (by exact bTrue (by omega))) rfl rfl rfl ?_
    refine AO.op (O.move rfl rfl) rfl rfl rfl ?_
    refine AO.opG rfl rfl rfl (fun hp => O.move rfl rfl) ?_
    refine AO.opG rfl rfl rfl (fun hp => OpW.force 14 rfl (by exact hp) (O.nilCheck rfl rfl)) ?_
    refine AO.opG rfl rfl rfl (fun hp => OpW.force 15 rfl (by exact hp) (O.fieldAddr rfl rfl)) ?_
    refine AO.opG rfl rfl rfl (fun hp => OpW.force 16 rfl (by exact hp) (O.load rfl rfl (by repeat (exact List.Mem.head _)) (by rfl))) ?_
    refine AO.opG rfl rfl rfl (fun hp => O.move rfl rfl) ?_
    refine AO.opG rfl rfl rfl (fun hp => OpW.force 17 rfl (by exact hp) (OpW.force 18 rfl (by exact hp) (O.indexS rfl rfl rfl ⟨by omega, by assumption⟩))) ?_
    refine AO.opG rfl rfl rfl (fun hp => OpW.force 19 rfl (by exact hp) (O.geq rfl rfl rfl (by exact bTrue (by omega)))) ?_
    refine AO.op (O.pickAnd rfl rfl rfl rfl (fun h => by exact h)) rfl rfl rfl ?_
    refine AO.op (O.move rfl rfl) rfl rfl rfl ?_
    refine AO.opG rfl rfl rfl (fun hp => O.move rfl rfl) ?_
    refine AO.opG rfl rfl rfl (fun hp => OpW.force 23 rfl (by exact hp) (O.nilCheck rfl rfl)) ?_
    refine AO.opG rfl rfl rfl (fun hp => OpW.force 24 rfl (by exact hp) (O.fieldAddr rfl rfl)) ?_
    refine AO.opG rfl rfl rfl (fun hp => OpW.force 25 rfl (by exact hp) (O.load rfl rfl (by repeat (exact List.Mem.head _)) (by rfl))) ?_
    refine AO.opG rfl rfl rfl (fun hp => O.move rfl rfl) ?_
    refine AO.opG rfl rfl rfl (fun hp => OpW.force 26 rfl (by exact hp) (OpW.force 27 rfl (by exact hp) (O.indexS rfl rfl rfl ⟨by omega, by assumption⟩))) ?_
    refine AO.opG rfl rfl rfl (fun hp => OpW.force 28 rfl (by exact hp) (O.leq rfl rfl rfl (by exact bFalse (by omega)))) ?_
    refine AO.op (O.pickAnd rfl rfl rfl rfl (fun h => by exact h)) rfl rfl rfl ?_
    refine AO.nil ?_
    refine AQ.thenN ?_
    refine AW.condF rfl ?_
    refine AW.exit ?_
    refine AQ.thenX ?_
    refine AQ.loopX ?_
    refine AQ.blockX rfl ?_
    refine AQ.thenN ?_
    refine AW.seq ?_
    refine AW.region ?_
    refine AO.op (O.move rfl rfl) rfl rfl rfl ?_
    refine AO.op (O.nilCheck rfl rfl) rfl rfl rfl ?_
    refine AO.op (O.fieldAddr rfl rfl) rfl rfl rfl ?_
    refine AO.op (O.load rfl rfl (by repeat (exact List.Mem.head _)) (by rfl)) rfl rfl rfl ?_
    refine AO.op (O.move rfl rfl) rfl rfl rfl ?_
    refine AO.op (O.sliceS rfl rfl (by exact rfl) (by exact ⟨_, _, rfl, by rfl⟩) (by omega) (by omega) (by assumption)) rfl rfl rfl ?_
    refine AO.op (O.call rfl Tryz.func106 rfl rfl rfl (pparse1_fn)) rfl rfl rfl ?_
    refine AO.op (O.move rfl rfl) rfl rfl rfl ?_
    refine AO.op (O.extract rfl rfl rfl) rfl rfl rfl ?_
    refine AO.op (O.extract rfl rfl rfl) rfl rfl rfl ?_
    refine AO.op (O.assign rfl rfl) rfl rfl rfl ?_
    refine AO.op (O.assign rfl rfl) rfl rfl rfl ?_
    refine AO.nil ?_
    refine AQ.thenN ?_
    refine AW.seq ?_
    refine AW.region ?_
    refine AO.op (O.move rfl rfl) rfl rfl rfl ?_
    refine AO.op (O.move rfl rfl) rfl rfl rfl ?_
    refine AO.op (O.nilCheck rfl rfl) rfl rfl rfl ?_
    refine AO.op (O.fieldAddr rfl rfl) rfl rfl rfl ?_
    refine AO.op (O.load rfl rfl (by repeat (exact List.Mem.head _)) (by rfl)) rfl rfl rfl ?_
    refine AO.op (O.move rfl rfl) rfl rfl rfl ?_
    refine AO.opG rfl rfl rfl (fun hp => O.move rfl rfl) ?_
    refine AO.opG rfl rfl rfl (fun hp => OpW.force 49 rfl (by exact hp) (O.neqNilI ⟨_, Tryz.underlying175⟩ rfl rfl)) ?_
    refine AO.op (O.pickOr rfl rfl rfl rfl (fun h => by exact congrArg (fun b => !b) h)) rfl rfl rfl ?_
    refine AO.op (O.move rfl rfl) rfl rfl rfl ?_
    refine AO.opG rfl rfl rfl (fun hp => O.move rfl rfl) ?_
    refine AO.opG rfl rfl rfl (fun hp => OpW.force 53 rfl (by exact hp) (O.gtr rfl rfl rfl (by exact bFalse (by omega)))) ?_
    refine AO.opG rfl rfl rfl (fun hp => OpW.force 54 rfl (by exact hp) (O.move rfl rfl)) ?_
    refine AO.opG rfl rfl rfl (fun hp => O.move rfl rfl) ?_
    refine AO.opG rfl rfl rfl (fun hp => OpW.force 56 rfl (by exact hp) (O.nilCheck rfl rfl)) ?_
    refine AO.opG rfl rfl rfl (fun hp => OpW.force 57 rfl (by exact hp) (O.fieldAddr rfl rfl)) ?_
    refine AO.opG rfl rfl rfl (fun hp => OpW.force 58 rfl (by exact hp) (O.load rfl rfl (by repeat (exact List.Mem.head _)) (by rfl))) ?_
    refine AO.opG rfl rfl rfl (fun hp => OpW.force 59 rfl (by exact hp) (O.indexS rfl rfl rfl ⟨by omega, by assumption⟩)) ?_
    refine AO.opG rfl rfl rfl (fun hp => OpW.force 60 rfl (by exact hp) (O.eql rfl rfl rfl (by exact beq_eq_false_iff_ne.2 (by omega)))) ?_
    refine AO.opG rfl rfl rfl (fun hp => OpW.force 55 rfl (by exact hp) (O.pickAnd rfl rfl rfl rfl (fun h => by exact h))) ?_
    refine AO.op (O.pickOr rfl rfl rfl rfl (fun h => by exact congrArg (fun b => !b) h)) rfl rfl rfl ?_
    refine AO.op (O.nilCheck rfl rfl) rfl rfl rfl ?_
    refine AO.op (O.fieldAddr rfl rfl) rfl rfl rfl ?_
    (refine AO.store (i := 0) rfl rfl rfl rfl rfl rfl (by rfl) (by rfl) (by rfl) (by (dsimp only [List.set, List.cons_append, List.nil_append, List.take, List.drop]; done)) (by (dsimp only [List.set, List.cons_append, List.nil_append, List.take, List.drop]; done)) ?_)
    refine AO.nil ?_
    refine AQ.thenN ?_
    refine AW.seq ?_
    refine AW.region ?_
    refine AO.op (O.move rfl rfl) rfl rfl rfl ?_
    refine AO.op (O.move rfl rfl) rfl rfl rfl ?_
    refine AO.op (O.nilCheck rfl rfl) rfl rfl rfl ?_
    refine AO.op (O.fieldAddr rfl rfl) rfl rfl rfl ?_
    refine AO.op (O.load rfl rfl (by repeat (exact List.Mem.head _)) (by rfl)) rfl rfl rfl ?_
    refine AO.op (O.move rfl rfl) rfl rfl rfl ?_
    refine AO.op (O.sliceS rfl rfl (by exact ⟨_, _, rfl, by rfl⟩) (by exact rfl) (by omega) (by omega) (by assumption)) rfl rfl rfl ?_
    refine AO.op (O.nilCheck rfl rfl) rfl rfl rfl ?_
    refine AO.op (O.fieldAddr rfl rfl) rfl rfl rfl ?_
    (refine AO.store (i := 0) rfl rfl rfl rfl rfl rfl (by rfl) (by rfl) (by rfl) (by (dsimp only [List.set, List.cons_append, List.nil_append, List.take, List.drop]; done)) (by (dsimp only [List.set, List.cons_append, List.nil_append, List.take, List.drop]; done)) ?_)
    refine AO.nil ?_
    refine AQ.thenN ?_
    refine AW.seq ?_
    refine AW.region ?_
    refine AO.op (O.move rfl rfl) rfl rfl rfl ?_
    refine AO.op (O.assign rfl rfl) rfl rfl rfl ?_
    refine AO.nil ?_
    refine AQ.thenN ?_
    refine AW.ret ?_
    refine AQ.ret1 rfl rfl ⟨_, by repeat (first | exact List.Sublist.slnil | refine List.Sublist.cons_cons _ ?_), List.Perm.refl _⟩ (⟨rfl, rfl⟩)
  skip
abbrev namesV : List Value := [.string ⟨#[102, 97, 108, 115, 101]⟩, .string ⟨#[116, 114, 117, 101]⟩, .string ⟨#[110, 117, 108, 108]⟩, .string ⟨#[117, 110, 100, 101, 102, 105, 110, 101, 100]⟩]
abbrev GN (W : World) : Prop := GK 0 namesV W
abbrev uintA (k n : Int) : List AV := [.val (.int .i64 k), .val (.int .u64 n), .val (.slice none 0 0), .val (.slice none 0 0)]
abbrev arrA (n : Nat) (xs : List AV) : List AV := [.val (.int .i64 4), .val (.int .u64 0), .val (.slice none 0 0), .ro false n xs]
theorem item1_fn (B : Nat) (hB : B ≠ 0) : SpK GN Tryz.prog 80 [ptr B, .val (.int .i64 1)] [parsB B ⟨#[49, 93]⟩ 1 false] (IsM (.agg (uintA 0 1)) (parsB B ⟨#[93]⟩ 2 false)) := by
  have p1 : PreN ⟨#[49, 93]⟩ ⟨#[104, 39]⟩ := by decide +kernel
  have p2 : PreN ⟨#[49, 93]⟩ ⟨#[34]⟩ := by decide +kernel
  have p3 : PreN ⟨#[49, 93]⟩ ⟨#[91]⟩ := by decide +kernel
  have p4 : PreN ⟨#[49, 93]⟩ ⟨#[123]⟩ := by decide +kernel
  have p5 : PreN ⟨#[49, 93]⟩ ⟨#[115, 105, 109, 112, 108, 101, 40]⟩ := by decide +kernel
  have p6 : PreN ⟨#[49, 93]⟩ ⟨#[102, 108, 111, 97, 116, 39]⟩ := by decide +kernel
  have p7 : PreN ⟨#[49, 93]⟩ ⟨#[45]⟩ := by decide +kernel
  have p8 : PreN ⟨#[49, 93]⟩ ⟨#[102, 97, 108, 115, 101]⟩ := by decide +kernel
  have p9 : PreN ⟨#[49, 93]⟩ ⟨#[116, 114, 117, 101]⟩ := by decide +kernel
  have pa : PreN ⟨#[49, 93]⟩ ⟨#[110, 117, 108, 108]⟩ := by decide +kernel
  have pb : PreN ⟨#[49, 93]⟩ ⟨#[117, 110, 100, 101, 102, 105, 110, 101, 100]⟩ := by decide +kernel
  have pc : PreN ⟨#[93]⟩ ⟨#[40]⟩ := by decide +kernel
  refine SpK.enter Tryz.func80 rfl _ Tryz.ntmps80 rfl (fun w0 R0 hK => ?_)
  refine AW.seq ?_
  refine AW.region ?_
  refine AO.opB (O.alloc rfl (by (dsimp only [zerosA, List.replicate, List.append, List.flatten, AV.cells, Value.cells, List.toList_toArray, List.map]; done)) (by rfl)) rfl rfl rfl ?_
  intro B1
  refine AO.nil ?_
  refine AQ.thenN ?_
  refine AW.seq ?_
  refine AW.region ?_
  refine AO.op (O.move rfl rfl) rfl rfl rfl ?_
  refine AO.op (O.nilCheck rfl rfl) rfl rfl rfl ?_
  refine AO.op (O.fieldAddr rfl rfl) rfl rfl rfl ?_
  refine AO.op (O.load rfl rfl (by repeat (first | exact List.Mem.head _ | refine List.Mem.tail _ ?_)) (by rfl)) rfl rfl rfl ?_
  refine AO.op (O.add rfl rfl rfl (by exact wI64 (by omega))) rfl rfl rfl ?_
  refine AO.op (O.nilCheck rfl rfl) rfl rfl rfl ?_
  refine AO.op (O.fieldAddr rfl rfl) rfl rfl rfl ?_
  (refine AO.store (i := 1) rfl rfl rfl rfl rfl rfl (by rfl) (by rfl) (by rfl) (by (dsimp only [List.set, List.cons_append, List.nil_append, List.take, List.drop]; done)) (by (dsimp only [List.set, List.cons_append, List.nil_append, List.take, List.drop]; done)) ?_)
  refine AO.nil ?_
  refine AQ.thenN ?_
  refine AW.seq ?_
  refine AW.seq ?_
  refine AW.region ?_
  refine AO.op (O.move rfl rfl) rfl rfl rfl ?_
  refine AO.op (O.nilCheck rfl rfl) rfl rfl rfl ?_
  refine AO.op (O.fieldAddr rfl rfl) rfl rfl rfl ?_
  refine AO.op (O.load rfl rfl (by repeat (first | exact List.Mem.head _ | refine List.Mem.tail _ ?_)) (by rfl)) rfl rfl rfl ?_
  refine AO.op (O.move rfl rfl) rfl rfl rfl ?_
  refine AO.opG rfl rfl rfl (fun hp => O.move rfl rfl) ?_
  refine AO.opG rfl rfl rfl (fun hp => OpW.force 26 rfl (by exact hp) (O.nilCheck rfl rfl)) ?_
  refine AO.opG rfl rfl rfl (fun hp => OpW.force 27 rfl (by exact hp) (O.fieldAddr rfl rfl)) ?_
  refine AO.opG rfl rfl rfl (fun hp => OpW.force 28 rfl (by exact hp) (O.load rfl rfl (by repeat (first | exact List.Mem.head _ | refine List.Mem.tail _ ?_)) (by rfl))) ?_
  refine AO.opG rfl rfl rfl (fun hp => OpW.force 29 rfl (by exact hp) (O.gtr rfl rfl rfl (by exact bFalse (by omega)))) ?_
  refine AO.op (O.pickOr rfl rfl rfl rfl (fun h => by exact congrArg (fun b => !b) h)) rfl rfl rfl ?_
  refine AO.op (O.move rfl rfl) rfl rfl rfl ?_
  refine AO.opG rfl rfl rfl (fun hp => O.move rfl rfl) ?_
  refine AO.opG rfl rfl rfl (fun hp => OpW.force 33 rfl (by exact hp) (O.gtr rfl rfl rfl (by exact bFalse (by omega)))) ?_
  refine AO.op (O.pickOr rfl rfl rfl rfl (fun h => by exact congrArg (fun b => !b) h)) rfl rfl rfl ?_
  refine AO.nil ?_
  refine AQ.thenN ?_
  refine AW.condF rfl ?_
  refine AW.skip ?_
  refine AQ.thenN ?_
  refine AW.seq ?_
  refine AW.block ?_
  refine AW.seq ?_
  refine AW.region ?_
  refine AO.op (O.move rfl rfl) rfl rfl rfl ?_
  (refine AO.callM1 (i := 1) rfl rfl Tryz.func99 rfl rfl rfl rfl rfl rfl (skip_no ‹_›) (by (dsimp only [List.set, List.cons_append, List.nil_append, List.take, List.drop]; done)) ?_)
  refine AO.op (O.assign rfl rfl) rfl rfl rfl ?_
  refine AO.nil ?_
  refine AQ.thenN ?_
  refine AW.condF rfl ?_
  refine AW.seq ?_
  refine AW.region ?_
  refine AO.op (O.move rfl rfl) rfl rfl rfl ?_
  (refine AO.callM1 (i := 1) rfl rfl Tryz.func99 rfl rfl rfl rfl rfl rfl (skip_no ‹_›) (by (dsimp only [List.set, List.cons_append, List.nil_append, List.take, List.drop]; done)) ?_)
  refine AO.op (O.assign rfl rfl) rfl rfl rfl ?_
  refine AO.nil ?_
  refine AQ.thenN ?_
  refine AW.condF rfl ?_
  refine AW.seq ?_
  refine AW.region ?_
  refine AO.op (O.move rfl rfl) rfl rfl rfl ?_
  (refine AO.callM1 (i := 1) rfl rfl Tryz.func99 rfl rfl rfl rfl rfl rfl (skip_no ‹_›) (by (dsimp only [List.set, List.cons_append, List.nil_append, List.take, List.drop]; done)) ?_)
  refine AO.op (O.assign rfl rfl) rfl rfl rfl ?_
  refine AO.nil ?_
  refine AQ.thenN ?_
  refine AW.condF rfl ?_
  refine AW.seq ?_
  refine AW.region ?_
  refine AO.op (O.move rfl rfl) rfl rfl rfl ?_
  (refine AO.callM1 (i := 1) rfl rfl Tryz.func99 rfl rfl rfl rfl rfl rfl (skip_no ‹_›) (by (dsimp only [List.set, List.cons_append, List.nil_append, List.take, List.drop]; done)) ?_)
  refine AO.op (O.assign rfl rfl) rfl rfl rfl ?_
  refine AO.nil ?_
  refine AQ.thenN ?_
  refine AW.condF rfl ?_
  refine AW.seq ?_
  refine AW.region ?_
  refine AO.op (O.move rfl rfl) rfl rfl rfl ?_
  (refine AO.callM1 (i := 1) rfl rfl Tryz.func99 rfl rfl rfl rfl rfl rfl (skip_no ‹_›) (by (dsimp only [List.set, List.cons_append, List.nil_append, List.take, List.drop]; done)) ?_)
  refine AO.op (O.assign rfl rfl) rfl rfl rfl ?_
  refine AO.nil ?_
  refine AQ.thenN ?_
  refine AW.condF rfl ?_
  refine AW.seq ?_
  refine AW.region ?_
  refine AO.op (O.move rfl rfl) rfl rfl rfl ?_
  (refine AO.callM1 (i := 1) rfl rfl Tryz.func99 rfl rfl rfl rfl rfl rfl (skip_no ‹_›) (by (dsimp only [List.set, List.cons_append, List.nil_append, List.take, List.drop]; done)) ?_)
  refine AO.op (O.assign rfl rfl) rfl rfl rfl ?_
  refine AO.nil ?_
  refine AQ.thenN ?_
  refine AW.condF rfl ?_
  refine AW.seq ?_
  refine AW.region ?_
  refine AO.op (O.move rfl rfl) rfl rfl rfl ?_
  (refine AO.callM1 (i := 1) rfl rfl Tryz.func99 rfl rfl rfl rfl rfl rfl (skip_no ‹_›) (by (dsimp only [List.set, List.cons_append, List.nil_append, List.take, List.drop]; done)) ?_)
  refine AO.op (O.assign rfl rfl) rfl rfl rfl ?_
  refine AO.nil ?_
  refine AQ.thenN ?_
  refine AW.condF rfl ?_
  refine AW.skip ?_
  refine AQ.blockN ?_
  refine AQ.thenN ?_
  refine AW.seq ?_
  refine AW.seq ?_
  refine AW.region ?_
  refine AO.loadG hK (notFoot_blk hB) rfl rfl rfl rfl rfl ?_
  refine AO.op (O.move rfl rfl) rfl rfl rfl ?_
  refine AO.nil ?_
  refine AQ.thenN ?_
  refine AW.block ?_
  refine AW.loopK [(0, _), (1, _), (4, _), (127, _)] (fun nn E H => ∃ (k : Nat), (k ≤ 4) ∧ nn = 4 - k ∧ E = [(128, .val (.int .i64 (k : Int)))] ∧ H = [.blk B1 100 4 [.val (.int .i64 0), .val (.int .u64 0), .val (.slice none 0 0), .val (.slice none 0 0)], parsB B ⟨#[49, 93]⟩ 2 false]) _ (⟨0, by omega, rfl, rfl, rfl⟩) (by repeat (first | exact envNil | refine envCons rfl ?_)) (by repeat (first | exact envNil | refine envCons rfl ?_)) (by repeat (first | exact subPnil | refine subPcons 0 rfl ?_)) ?_
  rintro nn E H ⟨k, hk, rfl, rfl, rfl⟩
  dsimp only [List.cons_append, List.nil_append]
  obtain rfl | rfl | rfl | rfl | rfl : k = 0 ∨ k = 1 ∨ k = 2 ∨ k = 3 ∨ k = 4 := by omega
  · skip
    refine AW.seq ?_
    refine AW.region ?_
    refine AO.op (O.lss rfl rfl rfl (by exact bTrue (by omega))) rfl rfl rfl ?_
    refine AO.nil ?_
    refine AQ.thenN ?_
    refine AW.seq ?_
    refine AW.condT rfl ?_
    refine AW.skip ?_
    refine AQ.thenN ?_
    refine AW.seq ?_
    refine AW.block ?_
    refine AW.seq ?_
    refine AW.region ?_
    refine AO.op (O.move rfl rfl) rfl rfl rfl ?_
    refine AO.op (O.index1 rfl rfl rfl ⟨(by omega), (by omega)⟩ (by rfl)) rfl rfl rfl ?_
    refine AO.op (O.assign rfl rfl) rfl rfl rfl ?_
    refine AO.op (O.assign rfl rfl) rfl rfl rfl ?_
    refine AO.nil ?_
    refine AQ.thenN ?_
    refine AW.seq ?_
    refine AW.region ?_
    refine AO.op (O.move rfl rfl) rfl rfl rfl ?_
    refine AO.op (O.move rfl rfl) rfl rfl rfl ?_
    (refine AO.callM1 (i := 1) rfl rfl Tryz.func99 rfl rfl rfl rfl rfl rfl (skip_no ‹_›) (by (dsimp only [List.set, List.cons_append, List.nil_append, List.take, List.drop]; done)) ?_)
    refine AO.nil ?_
    refine AQ.thenN ?_
    refine AW.condF rfl ?_
    refine AW.skip ?_
    refine AQ.blockN ?_
    refine AQ.thenN ?_
    refine AW.region ?_
    refine AO.op (O.add rfl rfl rfl (by exact wI64 (by omega))) rfl rfl rfl ?_
    refine AO.op (O.move rfl rfl) rfl rfl rfl ?_
    refine AO.nil ?_
    refine AQ.loopKN _ _ _ (by omega) (⟨1, by omega, rfl, rfl, rfl⟩) (by repeat (first | exact envNil | refine envCons rfl ?_)) (by repeat (first | exact envNil | refine envCons rfl ?_)) (by repeat (first | exact subPnil | refine subPcons 0 rfl ?_))
  · skip
    refine AW.seq ?_
    refine AW.region ?_
    refine AO.op (O.lss rfl rfl rfl (by exact bTrue (by omega))) rfl rfl rfl ?_
    refine AO.nil ?_
    refine AQ.thenN ?_
    refine AW.seq ?_
    refine AW.condT rfl ?_
    refine AW.skip ?_
    refine AQ.thenN ?_
    refine AW.seq ?_
    refine AW.block ?_
    refine AW.seq ?_
    refine AW.region ?_
    refine AO.op (O.move rfl rfl) rfl rfl rfl ?_
    refine AO.op (O.index1 rfl rfl rfl ⟨(by omega), (by omega)⟩ (by rfl)) rfl rfl rfl ?_
    refine AO.op (O.assign rfl rfl) rfl rfl rfl ?_
    refine AO.op (O.assign rfl rfl) rfl rfl rfl ?_
    refine AO.nil ?_
    refine AQ.thenN ?_
    refine AW.seq ?_
    refine AW.region ?_
    refine AO.op (O.move rfl rfl) rfl rfl rfl ?_
    refine AO.op (O.move rfl rfl) rfl rfl rfl ?_
    (refine AO.callM1 (i := 1) rfl rfl Tryz.func99 rfl rfl rfl rfl rfl rfl (skip_no ‹_›) (by (dsimp only [List.set, List.cons_append, List.nil_append, List.take, List.drop]; done)) ?_)
    refine AO.nil ?_
    refine AQ.thenN ?_
    refine AW.condF rfl ?_
    refine AW.skip ?_
    refine AQ.blockN ?_
    refine AQ.thenN ?_
    refine AW.region ?_
    refine AO.op (O.add rfl rfl rfl (by exact wI64 (by omega))) rfl rfl rfl ?_
    refine AO.op (O.move rfl rfl) rfl rfl rfl ?_
    refine AO.nil ?_
    refine AQ.loopKN _ _ _ (by omega) (⟨2, by omega, rfl, rfl, rfl⟩) (by repeat (first | exact envNil | refine envCons rfl ?_)) (by repeat (first | exact envNil | refine envCons rfl ?_)) (by repeat (first | exact subPnil | refine subPcons 0 rfl ?_))
  · skip
    refine AW.seq ?_
    refine AW.region ?_
    refine AO.op (O.lss rfl rfl rfl (by exact bTrue (by omega))) rfl rfl rfl ?_
    refine AO.nil ?_
    refine AQ.thenN ?_
    refine AW.seq ?_
    refine AW.condT rfl ?_
    refine AW.skip ?_
    refine AQ.thenN ?_
    refine AW.seq ?_
    refine AW.block ?_
    refine AW.seq ?_
    refine AW.region ?_
    refine AO.op (O.move rfl rfl) rfl rfl rfl ?_
    refine AO.op (O.index1 rfl rfl rfl ⟨(by omega), (by omega)⟩ (by rfl)) rfl rfl rfl ?_
    refine AO.op (O.assign rfl rfl) rfl rfl rfl ?_
    refine AO.op (O.assign rfl rfl) rfl rfl rfl ?_
    refine AO.nil ?_
    refine AQ.thenN ?_
    refine AW.seq ?_
    refine AW.region ?_
    refine AO.op (O.move rfl rfl) rfl rfl rfl ?_
    refine AO.op (O.move rfl rfl) rfl rfl rfl ?_
    (refine AO.callM1 (i := 1) rfl rfl Tryz.func99 rfl rfl rfl rfl rfl rfl (skip_no ‹_›) (by (dsimp only [List.set, List.cons_append, List.nil_append, List.take, List.drop]; done)) ?_)
    refine AO.nil ?_
    refine AQ.thenN ?_
    refine AW.condF rfl ?_
    refine AW.skip ?_
    refine AQ.blockN ?_
    refine AQ.thenN ?_
    refine AW.region ?_
    refine AO.op (O.add rfl rfl rfl (by exact wI64 (by omega))) rfl rfl rfl ?_
    refine AO.op (O.move rfl rfl) rfl rfl rfl ?_
    refine AO.nil ?_
    refine AQ.loopKN _ _ _ (by omega) (⟨3, by omega, rfl, rfl, rfl⟩) (by repeat (first | exact envNil | refine envCons rfl ?_)) (by repeat (first | exact envNil | refine envCons rfl ?_)) (by repeat (first | exact subPnil | refine subPcons 0 rfl ?_))
  · skip
    refine AW.seq ?_
    refine AW.region ?_
    refine AO.op (O.lss rfl rfl rfl (by exact bTrue (by omega))) rfl rfl rfl ?_
    refine AO.nil ?_
    refine AQ.thenN ?_
    refine AW.seq ?_
    refine AW.condT rfl ?_
    refine AW.skip ?_
    refine AQ.thenN ?_
    refine AW.seq ?_
    refine AW.block ?_
    refine AW.seq ?_
    refine AW.region ?_
    refine AO.op (O.move rfl rfl) rfl rfl rfl ?_
    refine AO.op (O.index1 rfl rfl rfl ⟨(by omega), (by omega)⟩ (by rfl)) rfl rfl rfl ?_
    refine AO.op (O.assign rfl rfl) rfl rfl rfl ?_
    refine AO.op (O.assign rfl rfl) rfl rfl rfl ?_
    refine AO.nil ?_
    refine AQ.thenN ?_
    refine AW.seq ?_
    refine AW.region ?_
    refine AO.op (O.move rfl rfl) rfl rfl rfl ?_
    refine AO.op (O.move rfl rfl) rfl rfl rfl ?_
    (refine AO.callM1 (i := 1) rfl rfl Tryz.func99 rfl rfl rfl rfl rfl rfl (skip_no ‹_›) (by (dsimp only [List.set, List.cons_append, List.nil_append, List.take, List.drop]; done)) ?_)
    refine AO.nil ?_
    refine AQ.thenN ?_
    refine AW.condF rfl ?_
    refine AW.skip ?_
    refine AQ.blockN ?_
    refine AQ.thenN ?_
    refine AW.region ?_
    refine AO.op (O.add rfl rfl rfl (by exact wI64 (by omega))) rfl rfl rfl ?_
    refine AO.op (O.move rfl rfl) rfl rfl rfl ?_
    refine AO.nil ?_
    refine AQ.loopKN _ _ _ (by omega) (⟨4, by omega, rfl, rfl, rfl⟩) (by repeat (first | exact envNil | refine envCons rfl ?_)) (by repeat (first | exact envNil | refine envCons rfl ?_)) (by repeat (first | exact subPnil | refine subPcons 0 rfl ?_))
  · skip
    refine AW.seq ?_
    refine AW.region ?_
    refine AO.op (O.lss rfl rfl rfl (by exact bFalse (by omega))) rfl rfl rfl ?_
    refine AO.nil ?_
    refine AQ.thenN ?_
    refine AW.seq ?_
    refine AW.condF rfl ?_
    refine AW.exit ?_
    refine AQ.thenX ?_
    refine AQ.loopX ?_
    refine AQ.blockX rfl ?_
    refine AQ.thenN ?_
    refine AW.seq ?_
    refine AW.region ?_
    refine AO.op (O.move rfl rfl) rfl rfl rfl ?_
    (refine AO.callM1 (i := 1) rfl rfl Tryz.func103 rfl rfl rfl rfl rfl rfl (number_fn B) (by (dsimp only [List.set, List.cons_append, List.nil_append, List.take, List.drop]; done)) ?_)
    refine AO.op (O.assign rfl rfl) rfl rfl rfl ?_
    refine AO.nil ?_
    refine AQ.thenN ?_
    refine AW.seq ?_
    refine AW.seq ?_
    refine AW.region ?_
    refine AO.op (O.move rfl rfl) rfl rfl rfl ?_
    (refine AO.callM1 (i := 1) rfl rfl Tryz.func99 rfl rfl rfl rfl rfl rfl (skip_no ‹_›) (by (dsimp only [List.set, List.cons_append, List.nil_append, List.take, List.drop]; done)) ?_)
    refine AO.op (O.not rfl rfl (by rfl)) rfl rfl rfl ?_
    refine AO.nil ?_
    refine AQ.thenN ?_
    refine AW.condT rfl ?_
    refine AW.seq ?_
    refine AW.region ?_
    refine AO.op (O.move rfl rfl) rfl rfl rfl ?_
    refine AO.op (O.build rfl rfl rfl (by rfl)) rfl rfl rfl ?_
    (refine AO.store (i := 0) rfl rfl rfl rfl rfl rfl (by rfl) (by rfl) (by rfl) (by (dsimp only [List.set, List.cons_append, List.nil_append, List.take, List.drop]; done)) (by (dsimp only [List.set, List.cons_append, List.nil_append, List.take, List.drop]; done)) ?_)
    refine AO.nil ?_
    refine AQ.thenN ?_
    refine AW.ret ?_
    refine AQ.thenR ?_
    refine AQ.retCell rfl rfl (by repeat (exact List.Mem.head _)) (by rfl) rfl ⟨_, by repeat (first | exact List.Sublist.slnil | refine List.Sublist.cons_cons _ ?_ | refine List.Sublist.cons _ ?_), List.Perm.refl _⟩ (⟨rfl, rfl⟩)
  skip
end Go.Proofs.YtoonnnifelnaiaaGreatDoor.By

namespace Go.Proofs.YtoonnnifelnaiaaGreatDoor.By
open Go.RowKit L A Dk
set_option linter.unusedVariables false
set_option maxRecDepth 20000
set_option linter.unusedSimpArgs false
attribute [local irreducible] AW AQ AO
theorem list1_fn (B : Nat) (hB : B ≠ 0) : SpK GN Tryz.prog 102 [ptr B, .val (.string ⟨#[93]⟩), .val (.bool false), .val (.int .i64 1)] [parsB B ⟨#[49, 93]⟩ 1 false] (IsM (.ro false 1 (uintA 0 1)) (parsB B ⟨#[]⟩ 2 false)) := by
  have p1 : PreN ⟨#[49, 93]⟩ ⟨#[93]⟩ := by decide +kernel
  have p2 : PreY ⟨#[93]⟩ ⟨#[93]⟩ ⟨#[]⟩ := by decide +kernel
  refine SpK.enter Tryz.func102 rfl _ Tryz.ntmps102 rfl (fun w0 R0 hK => ?_)
  refine AW.seq ?_
  refine AW.region ?_
  refine AO.op (O.assign rfl rfl) rfl rfl rfl ?_
  refine AO.nil ?_
  refine AQ.thenN ?_
  refine AW.seq ?_
  refine AW.region ?_
  refine AO.op (O.assign rfl rfl) rfl rfl rfl ?_
  refine AO.nil ?_
  refine AQ.thenN ?_
  refine AW.seq ?_
  refine AW.block ?_
  refine AW.g ?_
  refine G.nilRow 100 4 ?_
  refine AW.u ?_
  refine AW.loopK [(0, _), (1, _), (2, _), (3, _)] (fun nn E H => ∃ (V : Value) (s : ByteArray) (q : Int) (n : Nat) (xs : List AV), (V.oneCell' = true) ∧ ((s = ⟨#[49, 93]⟩ ∧ q = 1 ∧ n = 0 ∧ xs = []) ∨ (s = ⟨#[93]⟩ ∧ q = 2 ∧ n = 1 ∧ xs = uintA 0 1)) ∧ nn = 1 - n ∧ E = [(9, .val V)] ∧ H = [.row V 100 4 n xs, parsB B s q false]) _ (⟨_, _, _, _, _, rfl, .inl ⟨rfl, rfl, rfl, rfl⟩, rfl, rfl, rfl⟩) (by repeat (first | exact envNil | refine envCons rfl ?_)) (by repeat (first | exact envNil | refine envCons rfl ?_)) (by repeat (first | exact subPnil | refine subPcons 0 rfl ?_)) ?_
  rintro nn E H ⟨V, s, q, n, xs, hV, hc, rfl, rfl, rfl⟩
  dsimp only [List.cons_append, List.nil_append]
  obtain ⟨rfl, rfl, rfl, rfl⟩ | ⟨rfl, rfl, rfl, rfl⟩ := hc
  · skip
    refine AW.seq ?_
    refine AW.seq ?_
    refine AW.region ?_
    refine AO.op (O.move rfl rfl) rfl rfl rfl ?_
    refine AO.op (O.nilCheck rfl rfl) rfl rfl rfl ?_
    refine AO.op (O.fieldAddr rfl rfl) rfl rfl rfl ?_
    refine AO.op (O.load rfl rfl (by repeat (first | exact List.Mem.head _ | refine List.Mem.tail _ ?_)) (by rfl)) rfl rfl rfl ?_
    refine AO.op (O.not rfl rfl (by rfl)) rfl rfl rfl ?_
    refine AO.op (O.move rfl rfl) rfl rfl rfl ?_
    refine AO.op (O.move rfl rfl) rfl rfl rfl ?_
    refine AO.op (O.move rfl rfl) rfl rfl rfl ?_
    (refine AO.callM1w (i := 1) rfl rfl Tryz.func99 rfl rfl rfl rfl rfl rfl (skip_no ‹_›) (by (dsimp only [List.set, List.cons_append, List.nil_append, List.take, List.drop]; done)) ?_)
    refine AO.op (O.not rfl rfl (by rfl)) rfl rfl rfl ?_
    refine AO.op (O.pickT rfl rfl rfl) rfl rfl rfl ?_
    refine AO.nil ?_
    refine AQ.thenN ?_
    refine AW.condT rfl ?_
    refine AW.skip ?_
    refine AQ.thenN ?_
    refine AW.block ?_
    refine AW.seq ?_
    refine AW.seq ?_
    refine AW.region ?_
    refine AO.op (O.move rfl rfl) rfl rfl rfl ?_
    refine AO.op (O.lenRow rfl rfl (by repeat (exact List.Mem.head _))) rfl rfl rfl ?_
    refine AO.op (O.gtr rfl rfl rfl (by exact bFalse (by omega))) rfl rfl rfl ?_
    refine AO.nil ?_
    refine AQ.thenN ?_
    refine AW.condF rfl ?_
    refine AW.skip ?_
    refine AQ.thenN ?_
    refine AW.seq ?_
    refine AW.region ?_
    refine AO.op (O.move rfl rfl) rfl rfl rfl ?_
    refine AO.op (O.move rfl rfl) rfl rfl rfl ?_
    refine AO.op (O.move rfl rfl) rfl rfl rfl ?_
    (refine AO.callK1 (i := 1) hK (notFoot_blk hB) rfl rfl Tryz.func80 rfl rfl rfl rfl rfl rfl (item1_fn B hB) (by (dsimp only [List.set, List.cons_append, List.nil_append, List.take, List.drop]; done)) ?_)
    refine AO.opB (O.buildSlice rfl rfl rfl (by rfl) (by rfl) (by rfl) (by rfl)) rfl rfl rfl ?_
    intro B1
    refine AO.g ?_
    (refine G.freezeSl 0 30 rfl rfl ⟨Nat.le_refl _, by unfold maxLen; omega⟩ ?_)
    refine G.unfull 30 rfl ?_
    refine AO.u ?_
    dsimp only [List.eraseIdx]
    (refine AO.append' (i := 0) rfl rfl rfl rfl (by rfl) (by rfl) rfl rfl rfl (by exact SrcA.ro TyD.ax (by rfl) (Nat.le_of_ble_eq_true rfl)) (by rfl) (by (unfold maxLen; omega)) (by omega) (by (dsimp only [List.set, List.cons_append, List.nil_append, List.take, List.drop]; done)) (fun _ => by (dsimp only [List.set]; done)) ?_)
    intro V2 hV2
    refine AO.op (O.assign rfl rfl) rfl rfl rfl ?_
    refine AO.nil ?_
    refine AQ.thenN ?_
    refine AW.seq ?_
    refine AW.region ?_
    refine AO.op (O.move rfl rfl) rfl rfl rfl ?_
    refine AO.nil ?_
    refine AQ.thenN ?_
    refine AW.condF rfl ?_
    refine AW.skip ?_
    refine AQ.blockN ?_
    refine AQ.loopKN _ _ _ (by omega) (⟨_, _, _, _, _, ‹_›, .inr ⟨rfl, rfl, rfl, rfl⟩, rfl, rfl, rfl⟩) (by repeat (first | exact envNil | refine envCons rfl ?_)) (by repeat (first | exact envNil | refine envCons rfl ?_)) (by repeat (first | exact subPnil | refine subPcons 0 rfl ?_))
  · skip
    refine AW.seq ?_
    refine AW.seq ?_
    refine AW.region ?_
    refine AO.op (O.move rfl rfl) rfl rfl rfl ?_
    refine AO.op (O.nilCheck rfl rfl) rfl rfl rfl ?_
    refine AO.op (O.fieldAddr rfl rfl) rfl rfl rfl ?_
    refine AO.op (O.load rfl rfl (by repeat (first | exact List.Mem.head _ | refine List.Mem.tail _ ?_)) (by rfl)) rfl rfl rfl ?_
    refine AO.op (O.not rfl rfl (by rfl)) rfl rfl rfl ?_
    refine AO.op (O.move rfl rfl) rfl rfl rfl ?_
    refine AO.op (O.move rfl rfl) rfl rfl rfl ?_
    refine AO.op (O.move rfl rfl) rfl rfl rfl ?_
    (refine AO.callM1w (i := 1) rfl rfl Tryz.func99 rfl rfl rfl rfl rfl rfl (skip_yes ⟨#[]⟩ ‹_›) (by (dsimp only [List.set, List.cons_append, List.nil_append, List.take, List.drop]; done)) ?_)
    refine AO.op (O.not rfl rfl (by rfl)) rfl rfl rfl ?_
    refine AO.op (O.pickT rfl rfl rfl) rfl rfl rfl ?_
    refine AO.nil ?_
    refine AQ.thenN ?_
    refine AW.condF rfl ?_
    refine AW.g ?_
    refine G.freezeRow 0 rfl [9] (by repeat (first | exact frNil | refine frCons rfl ?_)) ?_
    refine AW.u ?_
    try dsimp only [List.map, List.eraseIdx, List.cons_append, List.nil_append]
    refine AW.exit ?_
    refine AQ.thenX ?_
    refine AQ.loopX ?_
    refine AQ.blockX rfl ?_
    refine AQ.thenN ?_
    refine AW.seq ?_
    refine AW.region ?_
    refine AO.op (O.move rfl rfl) rfl rfl rfl ?_
    refine AO.op (O.assign rfl rfl) rfl rfl rfl ?_
    refine AO.nil ?_
    refine AQ.thenN ?_
    refine AW.ret ?_
    refine AQ.ret1 rfl rfl ⟨_, by repeat (first | exact List.Sublist.slnil | refine List.Sublist.cons_cons _ ?_), List.Perm.refl _⟩ (⟨rfl, rfl⟩)
  skip
theorem item0_fn (B : Nat) (hB : B ≠ 0) : SpK GN Tryz.prog 80 [ptr B, .val (.int .i64 0)] [parsB B ⟨#[91, 49, 93]⟩ 0 false] (IsM (.agg (arrA 1 (uintA 0 1))) (parsB B ⟨#[]⟩ 2 false)) := by
  have p1 : PreN ⟨#[91, 49, 93]⟩ ⟨#[104, 39]⟩ := by decide +kernel
  have p2 : PreN ⟨#[91, 49, 93]⟩ ⟨#[34]⟩ := by decide +kernel
  have p3 : PreY ⟨#[91, 49, 93]⟩ ⟨#[91]⟩ ⟨#[49, 93]⟩ := by decide +kernel
  refine SpK.enter Tryz.func80 rfl _ Tryz.ntmps80 rfl (fun w0 R0 hK => ?_)
  refine AW.seq ?_
  refine AW.region ?_
  refine AO.opB (O.alloc rfl (by (dsimp only [zerosA, List.replicate, List.append, List.flatten, AV.cells, Value.cells, List.toList_toArray, List.map]; done)) (by rfl)) rfl rfl rfl ?_
  intro B1
  refine AO.nil ?_
  refine AQ.thenN ?_
  refine AW.seq ?_
  refine AW.region ?_
  refine AO.op (O.move rfl rfl) rfl rfl rfl ?_
  refine AO.op (O.nilCheck rfl rfl) rfl rfl rfl ?_
  refine AO.op (O.fieldAddr rfl rfl) rfl rfl rfl ?_
  refine AO.op (O.load rfl rfl (by repeat (first | exact List.Mem.head _ | refine List.Mem.tail _ ?_)) (by rfl)) rfl rfl rfl ?_
  refine AO.op (O.add rfl rfl rfl (by exact wI64 (by omega))) rfl rfl rfl ?_
  refine AO.op (O.nilCheck rfl rfl) rfl rfl rfl ?_
  refine AO.op (O.fieldAddr rfl rfl) rfl rfl rfl ?_
  (refine AO.store (i := 1) rfl rfl rfl rfl rfl rfl (by rfl) (by rfl) (by rfl) (by (dsimp only [List.set, List.cons_append, List.nil_append, List.take, List.drop]; done)) (by (dsimp only [List.set, List.cons_append, List.nil_append, List.take, List.drop]; done)) ?_)
  refine AO.nil ?_
  refine AQ.thenN ?_
  refine AW.seq ?_
  refine AW.seq ?_
  refine AW.region ?_
  refine AO.op (O.move rfl rfl) rfl rfl rfl ?_
  refine AO.op (O.nilCheck rfl rfl) rfl rfl rfl ?_
  refine AO.op (O.fieldAddr rfl rfl) rfl rfl rfl ?_
  refine AO.op (O.load rfl rfl (by repeat (first | exact List.Mem.head _ | refine List.Mem.tail _ ?_)) (by rfl)) rfl rfl rfl ?_
  refine AO.op (O.move rfl rfl) rfl rfl rfl ?_
  refine AO.op (O.move rfl rfl) rfl rfl rfl ?_
  refine AO.op (O.nilCheck rfl rfl) rfl rfl rfl ?_
  refine AO.op (O.fieldAddr rfl rfl) rfl rfl rfl ?_
  refine AO.op (O.load rfl rfl (by repeat (first | exact List.Mem.head _ | refine List.Mem.tail _ ?_)) (by rfl)) rfl rfl rfl ?_
  refine AO.op (O.gtr rfl rfl rfl (by exact bFalse (by omega))) rfl rfl rfl ?_
  refine AO.op (O.pickF rfl rfl rfl) rfl rfl rfl ?_
  refine AO.op (O.move rfl rfl) rfl rfl rfl ?_
  refine AO.op (O.move rfl rfl) rfl rfl rfl ?_
  refine AO.op (O.gtr rfl rfl rfl (by exact bFalse (by omega))) rfl rfl rfl ?_
  refine AO.op (O.pickF rfl rfl rfl) rfl rfl rfl ?_
  refine AO.nil ?_
  refine AQ.thenN ?_
  refine AW.condF rfl ?_
  refine AW.skip ?_
  refine AQ.thenN ?_
  refine AW.seq ?_
  refine AW.block ?_
  refine AW.seq ?_
  refine AW.region ?_
  refine AO.op (O.move rfl rfl) rfl rfl rfl ?_
  (refine AO.callM1 (i := 1) rfl rfl Tryz.func99 rfl rfl rfl rfl rfl rfl (skip_no ‹_›) (by (dsimp only [List.set, List.cons_append, List.nil_append, List.take, List.drop]; done)) ?_)
  refine AO.op (O.assign rfl rfl) rfl rfl rfl ?_
  refine AO.nil ?_
  refine AQ.thenN ?_
  refine AW.condF rfl ?_
  refine AW.seq ?_
  refine AW.region ?_
  refine AO.op (O.move rfl rfl) rfl rfl rfl ?_
  (refine AO.callM1 (i := 1) rfl rfl Tryz.func99 rfl rfl rfl rfl rfl rfl (skip_no ‹_›) (by (dsimp only [List.set, List.cons_append, List.nil_append, List.take, List.drop]; done)) ?_)
  refine AO.op (O.assign rfl rfl) rfl rfl rfl ?_
  refine AO.nil ?_
  refine AQ.thenN ?_
  refine AW.condF rfl ?_
  refine AW.seq ?_
  refine AW.region ?_
  refine AO.op (O.move rfl rfl) rfl rfl rfl ?_
  (refine AO.callM1 (i := 1) rfl rfl Tryz.func99 rfl rfl rfl rfl rfl rfl (skip_yes ⟨#[49, 93]⟩ ‹_›) (by (dsimp only [List.set, List.cons_append, List.nil_append, List.take, List.drop]; done)) ?_)
  refine AO.op (O.assign rfl rfl) rfl rfl rfl ?_
  refine AO.nil ?_
  refine AQ.thenN ?_
  refine AW.condT rfl ?_
  refine AW.seq ?_
  refine AW.region ?_
  refine AO.op (O.move rfl rfl) rfl rfl rfl ?_
  refine AO.op (O.move rfl rfl) rfl rfl rfl ?_
  refine AO.op (O.add rfl rfl rfl (by exact wI64 (by omega))) rfl rfl rfl ?_
  (refine AO.callK1 (i := 1) hK (notFoot_blk hB) rfl rfl Tryz.func102 rfl rfl rfl rfl rfl rfl (list1_fn B hB) (by (dsimp only [List.set, List.cons_append, List.nil_append, List.take, List.drop]; done)) ?_)
  refine AO.op (O.build rfl rfl rfl (by rfl)) rfl rfl rfl ?_
  (refine AO.store (i := 0) rfl rfl rfl rfl rfl rfl (by rfl) (by rfl) (by rfl) (by (dsimp only [List.set, List.cons_append, List.nil_append, List.take, List.drop]; done)) (by (dsimp only [List.set, List.cons_append, List.nil_append, List.take, List.drop]; done)) ?_)
  refine AO.nil ?_
  refine AQ.thenN ?_
  refine AW.ret ?_
  refine AQ.blockR ?_
  refine AQ.thenR ?_
  refine AQ.retCell rfl rfl (by repeat (exact List.Mem.head _)) (by rfl) rfl ⟨_, by repeat (first | exact List.Sublist.slnil | refine List.Sublist.cons_cons _ ?_ | refine List.Sublist.cons _ ?_), List.Perm.refl _⟩ (⟨rfl, rfl⟩)
/-! ### Texts written -/
abbrev itA (k n : Int) (b : List UInt8) (m : Nat) (xs : List AV) : AV := .agg [.val (.int .i64 k), .val (.int .u64 n), roB b, .ro false m xs]
theorem put1_fn (V : Value) (l : List UInt8) (hl : l.length ≤ 1000) : Sp Tryz.prog 78 [.val V, itA 0 1 [] 0 []] [.row V 5 1 l.length (bytesA l)] (RowB 5 (l ++ [49])) := by
  refine Sp.enter Tryz.func78 rfl _ Tryz.ntmps78 rfl (fun w0 R0 => ?_)
  refine AW.seq ?_
  refine AW.region ?_
  refine AO.opB (O.box rfl rfl rfl rfl rfl) rfl rfl rfl ?_
  intro B1
  refine AO.op (O.assign rfl rfl) rfl rfl rfl ?_
  refine AO.nil ?_
  refine AQ.thenN ?_
  refine AW.seq ?_
  refine AW.seq ?_
  refine AW.region ?_
  refine AO.op (O.fieldAddr rfl rfl) rfl rfl rfl ?_
  refine AO.op (O.load rfl rfl (by repeat (exact List.Mem.head _)) (by rfl)) rfl rfl rfl ?_
  refine AO.nil ?_
  refine AQ.thenN ?_
  refine AW.block ?_
  refine AW.seq ?_
  refine AW.region ?_
  refine AO.op (O.eql rfl rfl rfl (by exact beq_iff_eq.2 (by omega))) rfl rfl rfl ?_
  refine AO.op (O.assign rfl rfl) rfl rfl rfl ?_
  refine AO.nil ?_
  refine AQ.thenN ?_
  refine AW.condT rfl ?_
  refine AW.seq ?_
  refine AW.region ?_
  refine AO.op (O.move rfl rfl) rfl rfl rfl ?_
  refine AO.op (O.fieldAddr rfl rfl) rfl rfl rfl ?_
  refine AO.op (O.load rfl rfl (by repeat (exact List.Mem.head _)) (by rfl)) rfl rfl rfl ?_
  refine AO.callMG 1 rfl rfl Tryz.func96 rfl rfl rfl rfl rfl rfl (app_fn V l 1 hl ⟨by omega, by omega⟩) ?_
  rintro _ _ ⟨V2, hV2, rfl, rfl⟩
  dsimp only [List.cons_append, List.nil_append, List.eraseIdx]
  refine AO.op (O.assign rfl rfl) rfl rfl rfl ?_
  refine AO.nil ?_
  refine AQ.thenN ?_
  refine AW.ret ?_
  refine AQ.blockR ?_
  refine AQ.thenR ?_
  refine AQ.ret1 rfl rfl ⟨_, by repeat (first | exact List.Sublist.slnil | refine List.Sublist.cons_cons _ ?_ | refine List.Sublist.cons _ ?_), List.Perm.refl _⟩ (retRB hV2 rfl rfl)
theorem putN_fn : Sp Tryz.prog 78 [.val (.slice none 0 0), itA 1 2 [] 0 []] [] (Is (roB [45, 51])) := by
  refine Sp.enter Tryz.func78 rfl _ Tryz.ntmps78 rfl (fun w0 R0 => ?_)
  refine AW.seq ?_
  refine AW.region ?_
  refine AO.opB (O.box rfl rfl rfl rfl rfl) rfl rfl rfl ?_
  intro B1
  refine AO.op (O.assign rfl rfl) rfl rfl rfl ?_
  refine AO.nil ?_
  refine AQ.thenN ?_
  refine AW.seq ?_
  refine AW.seq ?_
  refine AW.region ?_
  refine AO.op (O.fieldAddr rfl rfl) rfl rfl rfl ?_
  refine AO.op (O.load rfl rfl (by repeat (exact List.Mem.head _)) (by rfl)) rfl rfl rfl ?_
  refine AO.nil ?_
  refine AQ.thenN ?_
  refine AW.block ?_
  refine AW.seq ?_
  refine AW.region ?_
  refine AO.op (O.eql rfl rfl rfl (by exact beq_eq_false_iff_ne.2 (by omega))) rfl rfl rfl ?_
  refine AO.op (O.assign rfl rfl) rfl rfl rfl ?_
  refine AO.nil ?_
  refine AQ.thenN ?_
  refine AW.condF rfl ?_
  refine AW.seq ?_
  refine AW.region ?_
  refine AO.op (O.eql rfl rfl rfl (by exact beq_iff_eq.2 (by omega))) rfl rfl rfl ?_
  refine AO.op (O.assign rfl rfl) rfl rfl rfl ?_
  refine AO.nil ?_
  refine AQ.thenN ?_
  refine AW.condT rfl ?_
  refine AW.seq ?_
  refine AW.seq ?_
  refine AW.region ?_
  refine AO.op (O.fieldAddr rfl rfl) rfl rfl rfl ?_
  refine AO.op (O.load rfl rfl (by repeat (exact List.Mem.head _)) (by rfl)) rfl rfl rfl ?_
  refine AO.op (O.eql rfl rfl rfl (by exact beq_eq_false_iff_ne.2 (by omega))) rfl rfl rfl ?_
  refine AO.nil ?_
  refine AQ.thenN ?_
  refine AW.condF rfl ?_
  refine AW.g ?_
  refine G.nilRow 5 1 ?_
  refine AW.u ?_
  refine AW.skip ?_
  refine AQ.thenN ?_
  refine AW.seq ?_
  refine AW.regionM [(0, false), (1, false), (3, false), (4, false), (5, false), (2, true), (6, true), (7, false)] (by kernel_rfl) (by kernel_rfl) (by exact (by exact splitRow 0 0 rfl rfl splitNil)) ?_
  dsimp only [List.eraseIdx]
  refine AM.op rfl (O.move rfl rfl) rfl rfl rfl ?_
  refine AM.op rfl (OpW.frz (O.buildSlice rfl rfl rfl (by rfl) (by rfl) (by rfl) (by rfl)) (by (unfold maxLen; omega))) rfl rfl rfl ?_
  refine AM.op rfl (O.fieldAddr rfl rfl) rfl rfl rfl ?_
  refine AM.op rfl (O.load rfl rfl (by repeat (exact List.Mem.head _)) (by rfl)) rfl rfl rfl ?_
  refine AM.op rfl (O.add rfl rfl rfl (by exact wU64 (by omega))) rfl rfl rfl ?_
  refine AM.main _ rfl (fun w0 R0 => ?_)
  (refine AO.append' (i := 0) rfl rfl rfl rfl (by rfl) (by rfl) rfl rfl rfl (by exact SrcA.ro TyD.ax (by rfl) (Nat.le_of_ble_eq_true rfl)) (by rfl) (by (unfold maxLen; omega)) (by omega) (by (dsimp only [List.set, List.cons_append, List.nil_append, List.take, List.drop]; done)) (fun _ => by (dsimp only [List.set]; done)) ?_)
  intro V2 hV2
  refine AM.ok ?_
  dsimp only [putE]
  refine AM.main _ rfl (fun w0 R0 => ?_)
  refine AO.callMG 0 rfl rfl Tryz.func96 rfl rfl rfl rfl rfl rfl (app_fn _ [45] 3 (by decide) ⟨by omega, by omega⟩) ?_
  rintro _ _ ⟨V3, hV3, rfl, rfl⟩
  dsimp only [List.cons_append, List.nil_append, List.eraseIdx]
  refine AM.ok ?_
  dsimp only [putE]
  refine AM.op rfl (O.assign rfl rfl) rfl rfl rfl ?_
  refine AM.nil ?_
  dsimp only [List.cons_append, List.nil_append]
  refine AQ.thenN ?_
  refine AW.ret ?_
  refine AQ.blockR ?_
  refine AQ.thenR ?_
  refine AQ.g ?_
  refine G.freezeRow 0 rfl [4] (by repeat (first | exact frNil | refine frCons rfl ?_)) ?_
  refine AQ.u ?_
  try dsimp only [List.map, List.eraseIdx, List.cons_append, List.nil_append]
  refine AQ.ret1 rfl rfl ⟨_, List.nil_sublist _, .nil⟩ (⟨rfl, rfl⟩)
abbrev uintR (n : Int) : List AV := [.val (.int .i64 0), .val (.int .u64 n), roB [], .ro false 0 []]
theorem putA_fn : Sp Tryz.prog 78 [.val (.slice none 0 0), itA 4 0 [] 1 (uintR 1)] [] (Is (roB [91, 49, 93])) := by
  refine Sp.enter Tryz.func78 rfl _ Tryz.ntmps78 rfl (fun w0 R0 => ?_)
  refine AW.seq ?_
  refine AW.region ?_
  refine AO.opB (O.box rfl rfl rfl rfl rfl) rfl rfl rfl ?_
  intro B1
  refine AO.op (O.assign rfl rfl) rfl rfl rfl ?_
  refine AO.nil ?_
  refine AQ.thenN ?_
  refine AW.seq ?_
  refine AW.seq ?_
  refine AW.region ?_
  refine AO.op (O.fieldAddr rfl rfl) rfl rfl rfl ?_
  refine AO.op (O.load rfl rfl (by repeat (exact List.Mem.head _)) (by rfl)) rfl rfl rfl ?_
  refine AO.nil ?_
  refine AQ.thenN ?_
  refine AW.block ?_
  refine AW.seq ?_
  refine AW.region ?_
  refine AO.op (O.eql rfl rfl rfl (by exact beq_eq_false_iff_ne.2 (by omega))) rfl rfl rfl ?_
  refine AO.op (O.assign rfl rfl) rfl rfl rfl ?_
  refine AO.nil ?_
  refine AQ.thenN ?_
  refine AW.condF rfl ?_
  refine AW.seq ?_
  refine AW.region ?_
  refine AO.op (O.eql rfl rfl rfl (by exact beq_eq_false_iff_ne.2 (by omega))) rfl rfl rfl ?_
  refine AO.op (O.assign rfl rfl) rfl rfl rfl ?_
  refine AO.nil ?_
  refine AQ.thenN ?_
  refine AW.condF rfl ?_
  refine AW.seq ?_
  refine AW.region ?_
  refine AO.op (O.eql rfl rfl rfl (by exact beq_eq_false_iff_ne.2 (by omega))) rfl rfl rfl ?_
  refine AO.op (O.assign rfl rfl) rfl rfl rfl ?_
  refine AO.nil ?_
  refine AQ.thenN ?_
  refine AW.condF rfl ?_
  refine AW.seq ?_
  refine AW.region ?_
  refine AO.op (O.eql rfl rfl rfl (by exact beq_eq_false_iff_ne.2 (by omega))) rfl rfl rfl ?_
  refine AO.op (O.assign rfl rfl) rfl rfl rfl ?_
  refine AO.nil ?_
  refine AQ.thenN ?_
  refine AW.condF rfl ?_
  refine AW.seq ?_
  refine AW.region ?_
  refine AO.op (O.eql rfl rfl rfl (by exact beq_eq_false_iff_ne.2 (by omega))) rfl rfl rfl ?_
  refine AO.op (O.assign rfl rfl) rfl rfl rfl ?_
  refine AO.nil ?_
  refine AQ.thenN ?_
  refine AW.condF rfl ?_
  refine AW.seq ?_
  refine AW.region ?_
  refine AO.op (O.eql rfl rfl rfl (by exact beq_eq_false_iff_ne.2 (by omega))) rfl rfl rfl ?_
  refine AO.op (O.assign rfl rfl) rfl rfl rfl ?_
  refine AO.nil ?_
  refine AQ.thenN ?_
  refine AW.condF rfl ?_
  refine AW.seq ?_
  refine AW.region ?_
  refine AO.op (O.eql rfl rfl rfl (by exact beq_eq_false_iff_ne.2 (by omega))) rfl rfl rfl ?_
  refine AO.op (O.assign rfl rfl) rfl rfl rfl ?_
  refine AO.nil ?_
  refine AQ.thenN ?_
  refine AW.condF rfl ?_
  refine AW.skip ?_
  refine AQ.blockN ?_
  refine AQ.thenN ?_
  refine AW.seq ?_
  refine AW.region ?_
  refine AO.op (O.assign rfl rfl) rfl rfl rfl ?_
  refine AO.op (O.assign rfl rfl) rfl rfl rfl ?_
  refine AO.nil ?_
  refine AQ.thenN ?_
  refine AW.seq ?_
  refine AW.seq ?_
  refine AW.region ?_
  refine AO.op (O.fieldAddr rfl rfl) rfl rfl rfl ?_
  refine AO.op (O.load rfl rfl (by repeat (exact List.Mem.head _)) (by rfl)) rfl rfl rfl ?_
  refine AO.op (O.eql rfl rfl rfl (by exact beq_eq_false_iff_ne.2 (by omega))) rfl rfl rfl ?_
  refine AO.nil ?_
  refine AQ.thenN ?_
  refine AW.condF rfl ?_
  refine AW.g ?_
  refine G.nilRow 5 1 ?_
  refine AW.u ?_
  refine AW.skip ?_
  refine AQ.thenN ?_
  refine AW.seq ?_
  refine AW.region ?_
  refine AO.op (O.move rfl rfl) rfl rfl rfl ?_
  refine AO.op (O.move rfl rfl) rfl rfl rfl ?_
  refine AO.opB (O.buildSlice rfl rfl rfl (by rfl) (by rfl) (by rfl) (by rfl)) rfl rfl rfl ?_
  intro B2
  refine AO.g ?_
  (refine G.freezeSl 0 112 rfl rfl ⟨Nat.le_refl _, by unfold maxLen; omega⟩ ?_)
  refine G.unfull 112 rfl ?_
  refine AO.u ?_
  dsimp only [List.eraseIdx]
  (refine AO.append' (i := 0) rfl rfl rfl rfl (by rfl) (by rfl) rfl rfl rfl (by exact SrcA.ro TyD.ax (by rfl) (Nat.le_of_ble_eq_true rfl)) (by rfl) (by (unfold maxLen; omega)) (by omega) (by (dsimp only [List.set, List.cons_append, List.nil_append, List.take, List.drop]; done)) (fun _ => by (dsimp only [List.set]; done)) ?_)
  intro V3 hV3
  refine AO.op (O.assign rfl rfl) rfl rfl rfl ?_
  refine AO.nil ?_
  refine AQ.thenN ?_
  refine AW.seq ?_
  refine AW.seq ?_
  refine AW.region ?_
  refine AO.op (O.fieldAddr rfl rfl) rfl rfl rfl ?_
  refine AO.op (O.load rfl rfl (by repeat (first | exact List.Mem.head _ | refine List.Mem.tail _ ?_)) (by rfl)) rfl rfl rfl ?_
  refine AO.op (O.lenR rfl rfl) rfl rfl rfl ?_
  refine AO.op (O.move rfl rfl) rfl rfl rfl ?_
  refine AO.nil ?_
  refine AQ.thenN ?_
  refine AW.block ?_
  refine AW.loopK [(3, _), (7, _), (115, _), (116, _)] (fun nn E H => ∃ (k : Nat) (V : Value) (n : Nat) (xs : List AV), (V.oneCell' = true) ∧ ((k = 0 ∧ n = 1 ∧ xs = bytesA [91]) ∨ (k = 1 ∧ n = 2 ∧ xs = bytesA [91, 49])) ∧ nn = 1 - k ∧ E = [(0, .val V), (117, .val (.int .i64 (k : Int)))] ∧ H = [.row V 5 1 n xs, .blk B1 100 4 [.val (.int .i64 4), .val (.int .u64 0), roB [], .ro false 1 (uintR 1)]]) _ (⟨0, _, _, _, ‹_›, .inl ⟨rfl, rfl, rfl⟩, rfl, rfl, rfl⟩) (by repeat (first | exact envNil | refine envCons rfl ?_)) (by repeat (first | exact envNil | refine envCons rfl ?_)) (by repeat (first | exact subPnil | refine subPcons 0 rfl ?_)) ?_
  rintro nn E H ⟨k, V, n, xs, hV, hc, rfl, rfl, rfl⟩
  dsimp only [List.cons_append, List.nil_append]
  obtain ⟨rfl, rfl, rfl⟩ | ⟨rfl, rfl, rfl⟩ := hc
  · skip
    refine AW.seq ?_
    refine AW.region ?_
    refine AO.op (O.lss rfl rfl rfl (by exact bTrue (by omega))) rfl rfl rfl ?_
    refine AO.nil ?_
    refine AQ.thenN ?_
    refine AW.seq ?_
    refine AW.condT rfl ?_
    refine AW.skip ?_
    refine AQ.thenN ?_
    refine AW.seq ?_
    refine AW.block ?_
    refine AW.seq ?_
    refine AW.region ?_
    refine AO.op (O.move rfl rfl) rfl rfl rfl ?_
    refine AO.op (O.idxR rfl rfl rfl ⟨(by omega), (by omega)⟩) rfl rfl rfl ?_
    (refine AO.op (O.loadRK rfl rfl (by (dsimp only [List.set, List.cons_append, List.nil_append, List.take, List.drop]; done)) (by rfl)) rfl rfl rfl ?_)
    refine AO.opB (O.alloc rfl (by (dsimp only [zerosA, List.replicate, List.append, List.flatten, AV.cells, Value.cells, List.toList_toArray, List.map]; done)) (by rfl)) rfl rfl rfl ?_
    intro B4
    refine AO.op (O.assign rfl rfl) rfl rfl rfl ?_
    (refine AO.store (i := 0) rfl rfl rfl rfl rfl rfl (by rfl) (by rfl) (by rfl) (by (dsimp only [List.set, List.cons_append, List.nil_append, List.take, List.drop]; done)) (by (dsimp only [List.set, List.cons_append, List.nil_append, List.take, List.drop]; done)) ?_)
    refine AO.nil ?_
    refine AQ.thenN ?_
    refine AW.seq ?_
    refine AW.block ?_
    refine AW.seq ?_
    refine AW.region ?_
    refine AO.op (O.fieldAddr rfl rfl) rfl rfl rfl ?_
    refine AO.op (O.load rfl rfl (by repeat (first | exact List.Mem.head _ | refine List.Mem.tail _ ?_)) (by rfl)) rfl rfl rfl ?_
    refine AO.op (O.eql rfl rfl rfl (by exact beq_eq_false_iff_ne.2 (by omega))) rfl rfl rfl ?_
    refine AO.op (O.move rfl rfl) rfl rfl rfl ?_
    refine AO.no rfl rfl rfl ?_
    refine AO.no rfl rfl rfl ?_
    refine AO.no rfl rfl rfl ?_
    refine AO.op (O.pickF rfl rfl rfl) rfl rfl rfl ?_
    refine AO.op (O.assign rfl rfl) rfl rfl rfl ?_
    refine AO.nil ?_
    refine AQ.thenN ?_
    refine AW.condF rfl ?_
    refine AW.seq ?_
    refine AW.region ?_
    refine AO.op (O.move rfl rfl) rfl rfl rfl ?_
    refine AO.op (O.gtr rfl rfl rfl (by exact bFalse (by omega))) rfl rfl rfl ?_
    refine AO.op (O.assign rfl rfl) rfl rfl rfl ?_
    refine AO.nil ?_
    refine AQ.thenN ?_
    refine AW.condF rfl ?_
    refine AW.skip ?_
    refine AQ.blockN ?_
    refine AQ.thenN ?_
    refine AW.region ?_
    refine AO.op (O.move rfl rfl) rfl rfl rfl ?_
    (refine AO.op (O.loadK rfl rfl (by repeat (exact List.Mem.head _)) (by (dsimp only [List.set, List.cons_append, List.nil_append, List.take, List.drop]; done)) (by rfl)) rfl rfl rfl ?_)
    refine AO.callMG 1 rfl rfl Tryz.func78 rfl rfl rfl rfl rfl rfl (put1_fn _ [91] (by decide)) ?_
    rintro _ _ ⟨V5, hV5, rfl, rfl⟩
    dsimp only [List.cons_append, List.nil_append, List.eraseIdx]
    refine AO.op (O.assign rfl rfl) rfl rfl rfl ?_
    refine AO.nil ?_
    refine AQ.blockN ?_
    refine AQ.thenN ?_
    refine AW.region ?_
    refine AO.op (O.add rfl rfl rfl (by exact wI64 (by omega))) rfl rfl rfl ?_
    refine AO.op (O.move rfl rfl) rfl rfl rfl ?_
    refine AO.nil ?_
    refine AQ.loopKN _ _ _ (by omega) (⟨1, _, _, _, ‹_›, .inr ⟨rfl, rfl, rfl⟩, rfl, rfl, rfl⟩) (by repeat (first | exact envNil | refine envCons rfl ?_)) (by repeat (first | exact envNil | refine envCons rfl ?_)) (by repeat (first | exact subPnil | refine subPcons 0 rfl ?_ | refine subPcons 1 rfl ?_))
  · skip
    refine AW.seq ?_
    refine AW.region ?_
    refine AO.op (O.lss rfl rfl rfl (by exact bFalse (by omega))) rfl rfl rfl ?_
    refine AO.nil ?_
    refine AQ.thenN ?_
    refine AW.seq ?_
    refine AW.condF rfl ?_
    refine AW.exit ?_
    refine AQ.thenX ?_
    refine AQ.loopX ?_
    refine AQ.blockX rfl ?_
    refine AQ.thenN ?_
    refine AW.seq ?_
    refine AW.region ?_
    refine AO.op (O.move rfl rfl) rfl rfl rfl ?_
    refine AO.op (O.move rfl rfl) rfl rfl rfl ?_
    refine AO.opB (O.buildSlice rfl rfl rfl (by rfl) (by rfl) (by rfl) (by rfl)) rfl rfl rfl ?_
    intro B4
    refine AO.g ?_
    (refine G.freezeSl 0 144 rfl rfl ⟨Nat.le_refl _, by unfold maxLen; omega⟩ ?_)
    refine G.unfull 144 rfl ?_
    refine AO.u ?_
    dsimp only [List.eraseIdx]
    (refine AO.append' (i := 0) rfl rfl rfl rfl (by rfl) (by rfl) rfl rfl rfl (by exact SrcA.ro TyD.ax (by rfl) (Nat.le_of_ble_eq_true rfl)) (by rfl) (by (unfold maxLen; omega)) (by omega) (by (dsimp only [List.set, List.cons_append, List.nil_append, List.take, List.drop]; done)) (fun _ => by (dsimp only [List.set]; done)) ?_)
    intro V5 hV5
    refine AO.op (O.assign rfl rfl) rfl rfl rfl ?_
    refine AO.nil ?_
    refine AQ.thenN ?_
    refine AW.ret ?_
    refine AQ.g ?_
    refine G.freezeRow 0 rfl [4] (by repeat (first | exact frNil | refine frCons rfl ?_)) ?_
    refine AQ.u ?_
    try dsimp only [List.map, List.eraseIdx, List.cons_append, List.nil_append]
    refine AQ.ret1 rfl rfl ⟨_, List.nil_sublist _, .nil⟩ (⟨rfl, rfl⟩)
  skip
end Go.Proofs.YtoonnnifelnaiaaGreatDoor.By

namespace Go.Proofs.YtoonnnifelnaiaaGreatDoor.By
open Go.RowKit L A Dk
set_option linter.unusedVariables false
set_option maxRecDepth 20000
set_option linter.unusedSimpArgs false
attribute [local irreducible] AW AQ AO
inductive It where
  | mk (k n : Int) (b : List UInt8) (l : List It)
abbrev hnI (k n : Int) (b : List UInt8) (m : Nat) : Int := if k = 2 then (b.length : Int) else if k = 4 then (m : Int) else n
mutual
def It.cells : It → List AV
  | .mk k n b l => [.val (.int .i64 k), .val (.int .u64 n), roB b, .ro false l.length (itsA l)]
def itsA : List It → List AV
  | [] => []
  | x :: l => x.cells ++ itsA l
end
mutual
def It.nodes : It → Nat
  | .mk _ _ _ l => 1 + nodesL l
def nodesL : List It → Nat
  | [] => 0
  | x :: l => x.nodes + nodesL l
end
mutual
def It.enc : It → List UInt8
  | .mk k n b l => u8 (32 * k + hnI k n b l.length) :: (b ++ encL l)
def encL : List It → List UInt8
  | [] => []
  | x :: l => x.enc ++ encL l
end
def leafI : It → Prop
  | .mk k n b l => l = [] ∧ ((k = 0 ∨ k = 1) ∧ 0 ≤ n ∧ n < 24 ∧ b = [] ∨ k = 2 ∧ n = 0 ∧ b.length < 24)
def It.ok : Nat → It → Prop
  | 0, x => leafI x
  | d + 1, x => leafI x ∨ match x with | .mk k n b l => k = 4 ∧ n = 0 ∧ b = [] ∧ l.length < 24 ∧ ∀ y ∈ l, It.ok d y
theorem itsA_eq (l : List It) : itsA l = l.flatMap It.cells := by
  induction l with
  | nil => rw [itsA]; rfl
  | cons x l ih => rw [itsA, ih, List.flatMap_cons]
theorem cells_len (x : It) : x.cells.length = 4 := by cases x; rw [It.cells]; rfl
theorem encL_snoc (l : List It) (x : It) : encL (l ++ [x]) = encL l ++ x.enc := by
  induction l with
  | nil => simp [encL]
  | cons y l ih => simp [encL, ih]
theorem nodesL_snoc (l : List It) (x : It) : nodesL (l ++ [x]) = nodesL l + x.nodes := by
  induction l with
  | nil => simp [nodesL]
  | cons y l ih => simp [nodesL, ih]; omega
theorem encL_app (l m : List It) : encL (l ++ m) = encL l ++ encL m := by
  induction l with
  | nil => simp [encL]
  | cons y l ih => simp [encL, ih]
theorem nodesL_app (l m : List It) : nodesL (l ++ m) = nodesL l + nodesL m := by
  induction l with
  | nil => simp [nodesL]
  | cons y l ih => simp [nodesL, ih]; omega
def itN : It := .mk 0 0 [] []
abbrev itat (l : List It) (k : Nat) : It := l.getD k itN
theorem getIt {l : List It} {k : Nat} (h : k < l.length) {j : Nat} (hj : j = k) : ((itsA l).drop (j * 4)).take 4 = (itat l k).cells := by
  rw [itsA_eq]; exact flat_at cells_len itN h hj
theorem head_fn (k n : Int) (hk : 0 ≤ k ∧ k ≤ 7) (hn : 0 ≤ n ∧ n < 24) : Sp Tryz.prog 113 [.val (.int .u8 k), .val (.int .u64 n)] [] (Is (roB [u8 (32 * k + n)])) := by
  have e : k * 32 + n = ((u8 (32 * k + n)).toNat : Int) := by rw [u8_small (by omega)]; omega
  refine Sp.enter Tryz.func113 rfl _ Tryz.ntmps113 rfl (fun w0 R0 => ?_)
  refine AW.seq ?_
  refine AW.region ?_
  refine AO.op (O.assign rfl rfl) rfl rfl rfl ?_
  refine AO.nil ?_
  refine AQ.thenN ?_
  refine AW.seq ?_
  refine AW.region ?_
  refine AO.op (O.move rfl rfl) rfl rfl rfl ?_
  refine AO.op (O.shlK 5 32 rfl rfl rfl rfl (by rfl) (by exact wU8 (by omega))) rfl rfl rfl ?_
  refine AO.op (O.assign rfl rfl) rfl rfl rfl ?_
  refine AO.nil ?_
  refine AQ.thenN ?_
  refine AW.seq ?_
  refine AW.block ?_
  refine AW.seq ?_
  refine AW.region ?_
  refine AO.op (O.move rfl rfl) rfl rfl rfl ?_
  refine AO.op (O.lss rfl rfl rfl (by exact bTrue (by omega))) rfl rfl rfl ?_
  refine AO.op (O.assign rfl rfl) rfl rfl rfl ?_
  refine AO.nil ?_
  refine AQ.thenN ?_
  refine AW.condT rfl ?_
  refine AW.seq ?_
  refine AW.region ?_
  refine AO.op (O.move rfl rfl) rfl rfl rfl ?_
  refine AO.op (O.move rfl rfl) rfl rfl rfl ?_
  refine AO.op (O.conv rfl rfl (by exact wU8 (by omega))) rfl rfl rfl ?_
  refine AO.op (O.or_ rfl rfl rfl (orU8 5 (m := 32) (by decide) (by omega) (by omega))) rfl rfl rfl ?_
  refine AO.opB (O.buildSlice rfl rfl rfl (by rfl) (by rfl) (by rfl) (by rfl)) rfl rfl rfl ?_
  intro B1
  refine AO.op (O.assign rfl rfl) rfl rfl rfl ?_
  refine AO.nil ?_
  refine AQ.thenN ?_
  refine AW.ret ?_
  refine AQ.blockR ?_
  refine AQ.thenR ?_
  refine AQ.g ?_
  (refine G.freezeSl 0 4 rfl rfl ⟨Nat.le_refl _, by unfold maxLen; omega⟩ ?_; refine G.unfull 4 rfl ?_)
  refine AQ.u ?_
  try dsimp only [List.map, List.eraseIdx, List.cons_append, List.nil_append]
  refine AQ.ret1 rfl rfl ⟨_, List.nil_sublist _, .nil⟩ (⟨by show AV.ro false 1 [.val (.int .u8 (k * 32 + n))] = _; rw [e]; rfl, rfl⟩)
theorem majorL_fn {k n : Int} {b : List UInt8} (hk : k = 0 ∨ k = 1) (hn : 0 ≤ n ∧ n < 24) : Sp Tryz.prog 114 [.agg [.val (.int .i64 k), .val (.int .u64 n), roB b, .ro false 0 []]] [] (Is (.tup [.val (.int .u8 k), .val (.int .u64 n)])) := by
  refine Sp.enter Tryz.func114 rfl _ Tryz.ntmps114 rfl (fun w0 R0 => ?_)
  refine AW.seq ?_
  refine AW.region ?_
  refine AO.opB (O.box rfl rfl rfl rfl rfl) rfl rfl rfl ?_
  intro B1
  refine AO.op (O.assign rfl rfl) rfl rfl rfl ?_
  refine AO.op (O.assign rfl rfl) rfl rfl rfl ?_
  refine AO.nil ?_
  refine AQ.thenN ?_
  refine AW.seq ?_
  refine AW.seq ?_
  refine AW.region ?_
  refine AO.op (O.fieldAddr rfl rfl) rfl rfl rfl ?_
  refine AO.op (O.load rfl rfl (by repeat (exact List.Mem.head _)) (by rfl)) rfl rfl rfl ?_
  refine AO.nil ?_
  refine AQ.thenN ?_
  refine AW.block ?_
  refine AW.seq ?_
  refine AW.seq ?_
  refine AW.region ?_
  refine AO.op (O.eql rfl rfl rfl (by exact beq_eq_false_iff_ne.2 (by omega))) rfl rfl rfl ?_
  refine AO.op (O.assign rfl rfl) rfl rfl rfl ?_
  refine AO.nil ?_
  refine AQ.thenN ?_
  refine AW.condF rfl ?_
  refine AW.region ?_
  refine AO.op (O.eql rfl rfl rfl (by exact beq_eq_false_iff_ne.2 (by omega))) rfl rfl rfl ?_
  refine AO.op (O.assign rfl rfl) rfl rfl rfl ?_
  refine AO.nil ?_
  refine AQ.thenN ?_
  refine AW.condF rfl ?_
  refine AW.seq ?_
  refine AW.region ?_
  refine AO.op (O.eql rfl rfl rfl (by exact beq_eq_false_iff_ne.2 (by omega))) rfl rfl rfl ?_
  refine AO.op (O.assign rfl rfl) rfl rfl rfl ?_
  refine AO.nil ?_
  refine AQ.thenN ?_
  refine AW.condF rfl ?_
  refine AW.seq ?_
  refine AW.region ?_
  refine AO.op (O.eql rfl rfl rfl (by exact beq_eq_false_iff_ne.2 (by omega))) rfl rfl rfl ?_
  refine AO.op (O.assign rfl rfl) rfl rfl rfl ?_
  refine AO.nil ?_
  refine AQ.thenN ?_
  refine AW.condF rfl ?_
  refine AW.skip ?_
  refine AQ.blockN ?_
  refine AQ.thenN ?_
  refine AW.seq ?_
  refine AW.regionD 7 (by kernel_rfl) (by kernel_rfl) ?_
  simp only [List.take_succ_cons, List.take_zero, List.drop_succ_cons, List.drop_zero]
  refine FA.op (O.fieldAddr rfl rfl) rfl rfl rfl rfl ?_
  refine FA.op (O.load rfl rfl (by repeat (exact List.Mem.head _)) (by rfl)) rfl rfl rfl rfl ?_
  refine FA.op (O.conv rfl rfl (by exact wU8 (by omega))) rfl rfl rfl rfl ?_
  refine FA.op (O.fieldAddr rfl rfl) rfl rfl rfl rfl ?_
  refine FA.op (O.load rfl rfl (by repeat (exact List.Mem.head _)) (by rfl)) rfl rfl rfl rfl ?_
  refine FA.op (O.assign rfl rfl) rfl rfl rfl rfl ?_
  refine FA.op (O.assign rfl rfl) rfl rfl rfl rfl ?_
  refine FA.nil ?_
  simp only [chosen, List.nil_append, List.cons_append, List.append_nil]
  refine AO.nil ?_
  refine AQ.thenN ?_
  refine AW.ret ?_
  refine AQ.ret2 rfl rfl rfl ⟨_, List.nil_sublist _, .nil⟩ (⟨rfl, rfl⟩)
theorem majorB_fn {b : List UInt8} (hb : b.length < 24) : Sp Tryz.prog 114 [.agg [.val (.int .i64 2), .val (.int .u64 0), roB b, .ro false 0 []]] [] (Is (.tup [.val (.int .u8 2), .val (.int .u64 (b.length : Int))])) := by
  refine Sp.enter Tryz.func114 rfl _ Tryz.ntmps114 rfl (fun w0 R0 => ?_)
  refine AW.seq ?_
  refine AW.region ?_
  refine AO.opB (O.box rfl rfl rfl rfl rfl) rfl rfl rfl ?_
  intro B1
  refine AO.op (O.assign rfl rfl) rfl rfl rfl ?_
  refine AO.op (O.assign rfl rfl) rfl rfl rfl ?_
  refine AO.nil ?_
  refine AQ.thenN ?_
  refine AW.seq ?_
  refine AW.seq ?_
  refine AW.region ?_
  refine AO.op (O.fieldAddr rfl rfl) rfl rfl rfl ?_
  refine AO.op (O.load rfl rfl (by repeat (exact List.Mem.head _)) (by rfl)) rfl rfl rfl ?_
  refine AO.nil ?_
  refine AQ.thenN ?_
  refine AW.block ?_
  refine AW.seq ?_
  refine AW.seq ?_
  refine AW.region ?_
  refine AO.op (O.eql rfl rfl rfl (by exact beq_iff_eq.2 (by omega))) rfl rfl rfl ?_
  refine AO.op (O.assign rfl rfl) rfl rfl rfl ?_
  refine AO.nil ?_
  refine AQ.thenN ?_
  refine AW.condT rfl ?_
  refine AW.skip ?_
  refine AQ.thenN ?_
  refine AW.condT rfl ?_
  refine AW.seq ?_
  refine AW.regionD 9 (by kernel_rfl) (by kernel_rfl) ?_
  simp only [List.take_succ_cons, List.take_zero, List.drop_succ_cons, List.drop_zero]
  refine FA.op (O.fieldAddr rfl rfl) rfl rfl rfl rfl ?_
  refine FA.op (O.load rfl rfl (by repeat (exact List.Mem.head _)) (by rfl)) rfl rfl rfl rfl ?_
  refine FA.op (O.conv rfl rfl (by exact wU8 (by omega))) rfl rfl rfl rfl ?_
  refine FA.op (O.fieldAddr rfl rfl) rfl rfl rfl rfl ?_
  refine FA.op (O.load rfl rfl (by repeat (exact List.Mem.head _)) (by rfl)) rfl rfl rfl rfl ?_
  refine FA.op (O.lenR rfl rfl) rfl rfl rfl rfl ?_
  refine FA.op (O.conv rfl rfl (by exact wU64 (by omega))) rfl rfl rfl rfl ?_
  refine FA.op (O.assign rfl rfl) rfl rfl rfl rfl ?_
  refine FA.op (O.assign rfl rfl) rfl rfl rfl rfl ?_
  refine FA.nil ?_
  simp only [chosen, List.nil_append, List.cons_append, List.append_nil]
  refine AO.nil ?_
  refine AQ.thenN ?_
  refine AW.ret ?_
  refine AQ.blockR ?_
  refine AQ.thenR ?_
  refine AQ.ret2 rfl rfl rfl ⟨_, List.nil_sublist _, .nil⟩ (⟨rfl, rfl⟩)
theorem majorA_fn {m : Nat} {xs : List AV} (hm : m < 24) : Sp Tryz.prog 114 [.agg [.val (.int .i64 4), .val (.int .u64 0), roB [], .ro false m xs]] [] (Is (.tup [.val (.int .u8 4), .val (.int .u64 (m : Int))])) := by
  refine Sp.enter Tryz.func114 rfl _ Tryz.ntmps114 rfl (fun w0 R0 => ?_)
  refine AW.seq ?_
  refine AW.region ?_
  refine AO.opB (O.box rfl rfl rfl rfl rfl) rfl rfl rfl ?_
  intro B1
  refine AO.op (O.assign rfl rfl) rfl rfl rfl ?_
  refine AO.op (O.assign rfl rfl) rfl rfl rfl ?_
  refine AO.nil ?_
  refine AQ.thenN ?_
  refine AW.seq ?_
  refine AW.seq ?_
  refine AW.region ?_
  refine AO.op (O.fieldAddr rfl rfl) rfl rfl rfl ?_
  refine AO.op (O.load rfl rfl (by repeat (exact List.Mem.head _)) (by rfl)) rfl rfl rfl ?_
  refine AO.nil ?_
  refine AQ.thenN ?_
  refine AW.block ?_
  refine AW.seq ?_
  refine AW.seq ?_
  refine AW.region ?_
  refine AO.op (O.eql rfl rfl rfl (by exact beq_eq_false_iff_ne.2 (by omega))) rfl rfl rfl ?_
  refine AO.op (O.assign rfl rfl) rfl rfl rfl ?_
  refine AO.nil ?_
  refine AQ.thenN ?_
  refine AW.condF rfl ?_
  refine AW.region ?_
  refine AO.op (O.eql rfl rfl rfl (by exact beq_eq_false_iff_ne.2 (by omega))) rfl rfl rfl ?_
  refine AO.op (O.assign rfl rfl) rfl rfl rfl ?_
  refine AO.nil ?_
  refine AQ.thenN ?_
  refine AW.condF rfl ?_
  refine AW.seq ?_
  refine AW.region ?_
  refine AO.op (O.eql rfl rfl rfl (by exact beq_iff_eq.2 (by omega))) rfl rfl rfl ?_
  refine AO.op (O.assign rfl rfl) rfl rfl rfl ?_
  refine AO.nil ?_
  refine AQ.thenN ?_
  refine AW.condT rfl ?_
  refine AW.seq ?_
  refine AW.regionD 6 (by kernel_rfl) (by kernel_rfl) ?_
  simp only [List.take_succ_cons, List.take_zero, List.drop_succ_cons, List.drop_zero]
  refine FA.op (O.fieldAddr rfl rfl) rfl rfl rfl rfl ?_
  refine FA.op (O.load rfl rfl (by repeat (exact List.Mem.head _)) (by rfl)) rfl rfl rfl rfl ?_
  refine FA.op (O.lenR rfl rfl) rfl rfl rfl rfl ?_
  refine FA.op (O.conv rfl rfl (by exact wU64 (by omega))) rfl rfl rfl rfl ?_
  refine FA.op (O.assign rfl rfl) rfl rfl rfl rfl ?_
  refine FA.op (O.assign rfl rfl) rfl rfl rfl rfl ?_
  refine FA.nil ?_
  simp only [chosen, List.nil_append, List.cons_append, List.append_nil]
  refine AO.nil ?_
  refine AQ.thenN ?_
  refine AW.ret ?_
  refine AQ.blockR ?_
  refine AQ.thenR ?_
  refine AQ.ret2 rfl rfl rfl ⟨_, List.nil_sublist _, .nil⟩ (⟨rfl, rfl⟩)
theorem plainL_fn {k n : Int} (hk : k = 0 ∨ k = 1) : Sp Tryz.prog 116 [.agg [.val (.int .i64 k), .val (.int .u64 n), roB [], .ro false 0 []]] [] (Is (.tup [.val (.bool true), .val (.bool true)])) := by
  rcases hk with rfl | rfl
  · refine Sp.enter Tryz.func116 rfl _ Tryz.ntmps116 rfl (fun w0 R0 => ?_)
    refine AW.seq ?_
    refine AW.region ?_
    refine AO.opB (O.box rfl rfl rfl rfl rfl) rfl rfl rfl ?_
    intro B1
    refine AO.op (O.assign rfl rfl) rfl rfl rfl ?_
    refine AO.op (O.assign rfl rfl) rfl rfl rfl ?_
    refine AO.nil ?_
    refine AQ.thenN ?_
    refine AW.seq ?_
    refine AW.seq ?_
    refine AW.region ?_
    refine AO.op (O.fieldAddr rfl rfl) rfl rfl rfl ?_
    refine AO.op (O.load rfl rfl (by repeat (exact List.Mem.head _)) (by rfl)) rfl rfl rfl ?_
    refine AO.nil ?_
    refine AQ.thenN ?_
    refine AW.block ?_
    refine AW.seq ?_
    refine AW.seq ?_
    refine AW.region ?_
    refine AO.op (O.eql rfl rfl rfl (by exact beq_iff_eq.2 (by omega))) rfl rfl rfl ?_
    refine AO.op (O.assign rfl rfl) rfl rfl rfl ?_
    refine AO.nil ?_
    refine AQ.thenN ?_
    refine AW.condT rfl ?_
    refine AW.skip ?_
    refine AQ.thenN ?_
    refine AW.condT rfl ?_
    refine AW.seq ?_
    refine AW.region ?_
    refine AO.op (O.fieldAddr rfl rfl) rfl rfl rfl ?_
    refine AO.op (O.load rfl rfl (by repeat (exact List.Mem.head _)) (by rfl)) rfl rfl rfl ?_
    refine AO.op (O.lenR rfl rfl) rfl rfl rfl ?_
    refine AO.op (O.eql rfl rfl rfl (by rfl)) rfl rfl rfl ?_
    refine AO.op (O.move rfl rfl) rfl rfl rfl ?_
    refine AO.op (O.fieldAddr rfl rfl) rfl rfl rfl ?_
    refine AO.op (O.load rfl rfl (by repeat (exact List.Mem.head _)) (by rfl)) rfl rfl rfl ?_
    refine AO.op (O.lenR rfl rfl) rfl rfl rfl ?_
    refine AO.op (O.eql rfl rfl rfl (by exact beq_iff_eq.2 (by omega))) rfl rfl rfl ?_
    refine AO.op (O.pickT rfl rfl rfl) rfl rfl rfl ?_
    refine AO.op (O.assign rfl rfl) rfl rfl rfl ?_
    refine AO.op (O.assign rfl rfl) rfl rfl rfl ?_
    refine AO.nil ?_
    refine AQ.thenN ?_
    refine AW.ret ?_
    refine AQ.blockR ?_
    refine AQ.thenR ?_
    refine AQ.ret2 rfl rfl rfl ⟨_, List.nil_sublist _, .nil⟩ (⟨rfl, rfl⟩)
  · refine Sp.enter Tryz.func116 rfl _ Tryz.ntmps116 rfl (fun w0 R0 => ?_)
    refine AW.seq ?_
    refine AW.region ?_
    refine AO.opB (O.box rfl rfl rfl rfl rfl) rfl rfl rfl ?_
    intro B1
    refine AO.op (O.assign rfl rfl) rfl rfl rfl ?_
    refine AO.op (O.assign rfl rfl) rfl rfl rfl ?_
    refine AO.nil ?_
    refine AQ.thenN ?_
    refine AW.seq ?_
    refine AW.seq ?_
    refine AW.region ?_
    refine AO.op (O.fieldAddr rfl rfl) rfl rfl rfl ?_
    refine AO.op (O.load rfl rfl (by repeat (exact List.Mem.head _)) (by rfl)) rfl rfl rfl ?_
    refine AO.nil ?_
    refine AQ.thenN ?_
    refine AW.block ?_
    refine AW.seq ?_
    refine AW.seq ?_
    refine AW.region ?_
    refine AO.op (O.eql rfl rfl rfl (by exact beq_eq_false_iff_ne.2 (by omega))) rfl rfl rfl ?_
    refine AO.op (O.assign rfl rfl) rfl rfl rfl ?_
    refine AO.nil ?_
    refine AQ.thenN ?_
    refine AW.condF rfl ?_
    refine AW.region ?_
    refine AO.op (O.eql rfl rfl rfl (by exact beq_iff_eq.2 (by omega))) rfl rfl rfl ?_
    refine AO.op (O.assign rfl rfl) rfl rfl rfl ?_
    refine AO.nil ?_
    refine AQ.thenN ?_
    refine AW.condT rfl ?_
    refine AW.seq ?_
    refine AW.region ?_
    refine AO.op (O.fieldAddr rfl rfl) rfl rfl rfl ?_
    refine AO.op (O.load rfl rfl (by repeat (exact List.Mem.head _)) (by rfl)) rfl rfl rfl ?_
    refine AO.op (O.lenR rfl rfl) rfl rfl rfl ?_
    refine AO.op (O.eql rfl rfl rfl (by rfl)) rfl rfl rfl ?_
    refine AO.op (O.move rfl rfl) rfl rfl rfl ?_
    refine AO.op (O.fieldAddr rfl rfl) rfl rfl rfl ?_
    refine AO.op (O.load rfl rfl (by repeat (exact List.Mem.head _)) (by rfl)) rfl rfl rfl ?_
    refine AO.op (O.lenR rfl rfl) rfl rfl rfl ?_
    refine AO.op (O.eql rfl rfl rfl (by exact beq_iff_eq.2 (by omega))) rfl rfl rfl ?_
    refine AO.op (O.pickT rfl rfl rfl) rfl rfl rfl ?_
    refine AO.op (O.assign rfl rfl) rfl rfl rfl ?_
    refine AO.op (O.assign rfl rfl) rfl rfl rfl ?_
    refine AO.nil ?_
    refine AQ.thenN ?_
    refine AW.ret ?_
    refine AQ.blockR ?_
    refine AQ.thenR ?_
    refine AQ.ret2 rfl rfl rfl ⟨_, List.nil_sublist _, .nil⟩ (⟨rfl, rfl⟩)
theorem plainB_fn {b : List UInt8} : Sp Tryz.prog 116 [.agg [.val (.int .i64 2), .val (.int .u64 0), roB b, .ro false 0 []]] [] (Is (.tup [.val (.bool true), .val (.bool true)])) := by
  refine Sp.enter Tryz.func116 rfl _ Tryz.ntmps116 rfl (fun w0 R0 => ?_)
  refine AW.seq ?_
  refine AW.region ?_
  refine AO.opB (O.box rfl rfl rfl rfl rfl) rfl rfl rfl ?_
  intro B1
  refine AO.op (O.assign rfl rfl) rfl rfl rfl ?_
  refine AO.op (O.assign rfl rfl) rfl rfl rfl ?_
  refine AO.nil ?_
  refine AQ.thenN ?_
  refine AW.seq ?_
  refine AW.seq ?_
  refine AW.region ?_
  refine AO.op (O.fieldAddr rfl rfl) rfl rfl rfl ?_
  refine AO.op (O.load rfl rfl (by repeat (exact List.Mem.head _)) (by rfl)) rfl rfl rfl ?_
  refine AO.nil ?_
  refine AQ.thenN ?_
  refine AW.block ?_
  refine AW.seq ?_
  refine AW.seq ?_
  refine AW.region ?_
  refine AO.op (O.eql rfl rfl rfl (by exact beq_eq_false_iff_ne.2 (by omega))) rfl rfl rfl ?_
  refine AO.op (O.assign rfl rfl) rfl rfl rfl ?_
  refine AO.nil ?_
  refine AQ.thenN ?_
  refine AW.condF rfl ?_
  refine AW.region ?_
  refine AO.op (O.eql rfl rfl rfl (by exact beq_eq_false_iff_ne.2 (by omega))) rfl rfl rfl ?_
  refine AO.op (O.assign rfl rfl) rfl rfl rfl ?_
  refine AO.nil ?_
  refine AQ.thenN ?_
  refine AW.condF rfl ?_
  refine AW.seq ?_
  refine AW.region ?_
  refine AO.op (O.eql rfl rfl rfl (by exact beq_iff_eq.2 (by omega))) rfl rfl rfl ?_
  refine AO.op (O.assign rfl rfl) rfl rfl rfl ?_
  refine AO.nil ?_
  refine AQ.thenN ?_
  refine AW.condT rfl ?_
  refine AW.seq ?_
  refine AW.region ?_
  refine AO.op (O.fieldAddr rfl rfl) rfl rfl rfl ?_
  refine AO.op (O.load rfl rfl (by repeat (exact List.Mem.head _)) (by rfl)) rfl rfl rfl ?_
  refine AO.op (O.eql rfl rfl rfl (by exact beq_iff_eq.2 (by omega))) rfl rfl rfl ?_
  refine AO.op (O.move rfl rfl) rfl rfl rfl ?_
  refine AO.op (O.fieldAddr rfl rfl) rfl rfl rfl ?_
  refine AO.op (O.load rfl rfl (by repeat (exact List.Mem.head _)) (by rfl)) rfl rfl rfl ?_
  refine AO.op (O.lenR rfl rfl) rfl rfl rfl ?_
  refine AO.op (O.eql rfl rfl rfl (by exact beq_iff_eq.2 (by omega))) rfl rfl rfl ?_
  refine AO.op (O.pickT rfl rfl rfl) rfl rfl rfl ?_
  refine AO.op (O.assign rfl rfl) rfl rfl rfl ?_
  refine AO.op (O.assign rfl rfl) rfl rfl rfl ?_
  refine AO.nil ?_
  refine AQ.thenN ?_
  refine AW.ret ?_
  refine AQ.blockR ?_
  refine AQ.thenR ?_
  refine AQ.ret2 rfl rfl rfl ⟨_, List.nil_sublist _, .nil⟩ (⟨rfl, rfl⟩)
theorem plainA_fn {m : Nat} {xs : List AV} : Sp Tryz.prog 116 [.agg [.val (.int .i64 4), .val (.int .u64 0), roB [], .ro false m xs]] [] (Is (.tup [.val (.bool false), .val (.bool false)])) := by
  refine Sp.enter Tryz.func116 rfl _ Tryz.ntmps116 rfl (fun w0 R0 => ?_)
  refine AW.seq ?_
  refine AW.region ?_
  refine AO.opB (O.box rfl rfl rfl rfl rfl) rfl rfl rfl ?_
  intro B1
  refine AO.op (O.assign rfl rfl) rfl rfl rfl ?_
  refine AO.op (O.assign rfl rfl) rfl rfl rfl ?_
  refine AO.nil ?_
  refine AQ.thenN ?_
  refine AW.seq ?_
  refine AW.seq ?_
  refine AW.region ?_
  refine AO.op (O.fieldAddr rfl rfl) rfl rfl rfl ?_
  refine AO.op (O.load rfl rfl (by repeat (exact List.Mem.head _)) (by rfl)) rfl rfl rfl ?_
  refine AO.nil ?_
  refine AQ.thenN ?_
  refine AW.block ?_
  refine AW.seq ?_
  refine AW.seq ?_
  refine AW.region ?_
  refine AO.op (O.eql rfl rfl rfl (by exact beq_eq_false_iff_ne.2 (by omega))) rfl rfl rfl ?_
  refine AO.op (O.assign rfl rfl) rfl rfl rfl ?_
  refine AO.nil ?_
  refine AQ.thenN ?_
  refine AW.condF rfl ?_
  refine AW.region ?_
  refine AO.op (O.eql rfl rfl rfl (by exact beq_eq_false_iff_ne.2 (by omega))) rfl rfl rfl ?_
  refine AO.op (O.assign rfl rfl) rfl rfl rfl ?_
  refine AO.nil ?_
  refine AQ.thenN ?_
  refine AW.condF rfl ?_
  refine AW.seq ?_
  refine AW.region ?_
  refine AO.op (O.eql rfl rfl rfl (by exact beq_eq_false_iff_ne.2 (by omega))) rfl rfl rfl ?_
  refine AO.op (O.assign rfl rfl) rfl rfl rfl ?_
  refine AO.nil ?_
  refine AQ.thenN ?_
  refine AW.condF rfl ?_
  refine AW.seq ?_
  refine AW.region ?_
  refine AO.op (O.eql rfl rfl rfl (by exact beq_eq_false_iff_ne.2 (by omega))) rfl rfl rfl ?_
  refine AO.op (O.assign rfl rfl) rfl rfl rfl ?_
  refine AO.nil ?_
  refine AQ.thenN ?_
  refine AW.condF rfl ?_
  refine AW.seq ?_
  refine AW.region ?_
  refine AO.op (O.eql rfl rfl rfl (by exact beq_eq_false_iff_ne.2 (by omega))) rfl rfl rfl ?_
  refine AO.op (O.assign rfl rfl) rfl rfl rfl ?_
  refine AO.nil ?_
  refine AQ.thenN ?_
  refine AW.condF rfl ?_
  refine AW.seq ?_
  refine AW.region ?_
  refine AO.op (O.eql rfl rfl rfl (by exact beq_eq_false_iff_ne.2 (by omega))) rfl rfl rfl ?_
  refine AO.op (O.assign rfl rfl) rfl rfl rfl ?_
  refine AO.nil ?_
  refine AQ.thenN ?_
  refine AW.condF rfl ?_
  refine AW.skip ?_
  refine AQ.blockN ?_
  refine AQ.thenN ?_
  refine AW.seq ?_
  refine AW.region ?_
  refine AO.op (O.assign rfl rfl) rfl rfl rfl ?_
  refine AO.op (O.assign rfl rfl) rfl rfl rfl ?_
  refine AO.nil ?_
  refine AQ.thenN ?_
  refine AW.ret ?_
  refine AQ.ret2 rfl rfl rfl ⟨_, List.nil_sublist _, .nil⟩ (⟨rfl, rfl⟩)
abbrev chkB (B : Nat) (it sz : Int) : HE := .blk B 162 2 [.val (.int .i64 it), .val (.int .i64 sz)]
theorem spendL_fn {B : Nat} {k n it sz : Int} (hk : k = 0 ∨ k = 1) (hn : 0 ≤ n ∧ n < 24) (hs : 0 ≤ sz ∧ sz < 4000) : Sp Tryz.prog 117 [ptr B, .agg [.val (.int .i64 k), .val (.int .u64 n), roB [], .ro false 0 []]] [chkB B it sz] (IsM (.val (.bool true)) (chkB B it (sz + 1))) := by
  have z1 : ([u8 (32 * k + n)] : List UInt8).length = 1 := rfl
  have z2 : ([] : List UInt8).length = 0 := rfl
  refine Sp.enter Tryz.func117 rfl _ Tryz.ntmps117 rfl (fun w0 R0 => ?_)
  refine AW.seq ?_
  refine AW.region ?_
  refine AO.opB (O.box rfl rfl rfl rfl rfl) rfl rfl rfl ?_
  intro B1
  refine AO.op (O.assign rfl rfl) rfl rfl rfl ?_
  refine AO.nil ?_
  refine AQ.thenN ?_
  refine AW.seq ?_
  refine AW.seq ?_
  refine AW.region ?_
  refine AO.op (O.fieldAddr rfl rfl) rfl rfl rfl ?_
  refine AO.op (O.load rfl rfl (by repeat (exact List.Mem.head _)) (by rfl)) rfl rfl rfl ?_
  refine AO.nil ?_
  refine AQ.thenN ?_
  refine AW.block ?_
  refine AW.seq ?_
  refine AW.region ?_
  refine AO.op (O.eql rfl rfl rfl (by exact beq_eq_false_iff_ne.2 (by omega))) rfl rfl rfl ?_
  refine AO.op (O.assign rfl rfl) rfl rfl rfl ?_
  refine AO.nil ?_
  refine AQ.thenN ?_
  refine AW.condF rfl ?_
  refine AW.seq ?_
  refine AW.region ?_
  refine AO.op (O.eql rfl rfl rfl (by exact beq_eq_false_iff_ne.2 (by omega))) rfl rfl rfl ?_
  refine AO.op (O.assign rfl rfl) rfl rfl rfl ?_
  refine AO.nil ?_
  refine AQ.thenN ?_
  refine AW.condF rfl ?_
  refine AW.regionD 17 (by kernel_rfl) (by kernel_rfl) ?_
  simp only [List.take_succ_cons, List.take_zero, List.drop_succ_cons, List.drop_zero]
  refine FA.op (O.move rfl rfl) rfl rfl rfl rfl ?_
  refine FA.op (O.nilCheck rfl rfl) rfl rfl rfl rfl ?_
  refine FA.op (O.fieldAddr rfl rfl) rfl rfl rfl rfl ?_
  refine FA.op (O.load rfl rfl (by repeat (first | exact List.Mem.head _ | refine List.Mem.tail _ ?_)) (by rfl)) rfl rfl rfl rfl ?_
  (refine FA.op (O.loadK rfl rfl (by repeat (exact List.Mem.head _)) (by (dsimp only [List.set, List.cons_append, List.nil_append, List.take, List.drop]; done)) (by rfl)) rfl rfl rfl rfl ?_)
  refine FA.op (O.call rfl Tryz.func114 rfl rfl rfl (majorL_fn hk hn)) rfl rfl rfl rfl ?_
  refine FA.op (O.extract rfl rfl rfl) rfl rfl rfl rfl ?_
  refine FA.op (O.extract rfl rfl rfl) rfl rfl rfl rfl ?_
  refine FA.op (O.call rfl Tryz.func113 rfl rfl rfl (head_fn k n ⟨by omega, by omega⟩ hn)) rfl rfl rfl rfl ?_
  refine FA.op (O.lenR rfl rfl) rfl rfl rfl rfl ?_
  refine FA.op (O.fieldAddr rfl rfl) rfl rfl rfl rfl ?_
  refine FA.op (O.load rfl rfl (by repeat (exact List.Mem.head _)) (by rfl)) rfl rfl rfl rfl ?_
  refine FA.op (O.lenR rfl rfl) rfl rfl rfl rfl ?_
  refine FA.op (O.add rfl rfl rfl (by exact wI64 (by omega))) rfl rfl rfl rfl ?_
  refine FA.op (O.add rfl rfl rfl (by exact wI64 (by omega))) rfl rfl rfl rfl ?_
  refine FA.op (O.nilCheck rfl rfl) rfl rfl rfl rfl ?_
  refine FA.op (O.fieldAddr rfl rfl) rfl rfl rfl rfl ?_
  refine FA.nil ?_
  simp only [chosen, List.nil_append, List.cons_append, List.append_nil]
  (refine AO.store (i := 1) rfl rfl rfl rfl rfl rfl (by rfl) (by rfl) (by rfl) (by (dsimp only [List.set, List.cons_append, List.nil_append, List.take, List.drop]; done)) (by (dsimp only [List.set, List.cons_append, List.nil_append, List.take, List.drop]; done)) ?_)
  refine AO.nil ?_
  refine AQ.blockN ?_
  refine AQ.thenN ?_
  refine AW.seq ?_
  refine AW.region ?_
  refine AO.op (O.move rfl rfl) rfl rfl rfl ?_
  refine AO.op (O.nilCheck rfl rfl) rfl rfl rfl ?_
  refine AO.op (O.fieldAddr rfl rfl) rfl rfl rfl ?_
  refine AO.op (O.load rfl rfl (by repeat (first | exact List.Mem.head _ | refine List.Mem.tail _ ?_)) (by rfl)) rfl rfl rfl ?_
  refine AO.op (O.leq rfl rfl rfl (by exact bTrue (by omega))) rfl rfl rfl ?_
  refine AO.op (O.assign rfl rfl) rfl rfl rfl ?_
  refine AO.nil ?_
  refine AQ.thenN ?_
  refine AW.ret ?_
  refine AQ.ret1 rfl rfl ⟨_, by repeat (first | exact List.Sublist.slnil | refine List.Sublist.cons_cons _ ?_ | refine List.Sublist.cons _ ?_), List.Perm.refl _⟩ (⟨rfl, rfl⟩)
theorem spendB_fn {B : Nat} {b : List UInt8} {it sz : Int} (hb : b.length < 24) (hs : 0 ≤ sz ∧ sz < 4000) : Sp Tryz.prog 117 [ptr B, .agg [.val (.int .i64 2), .val (.int .u64 0), roB b, .ro false 0 []]] [chkB B it sz] (IsM (.val (.bool true)) (chkB B it (sz + (1 + (b.length : Int))))) := by
  have z1 : ([u8 (32 * 2 + (b.length : Int))] : List UInt8).length = 1 := rfl
  refine Sp.enter Tryz.func117 rfl _ Tryz.ntmps117 rfl (fun w0 R0 => ?_)
  refine AW.seq ?_
  refine AW.region ?_
  refine AO.opB (O.box rfl rfl rfl rfl rfl) rfl rfl rfl ?_
  intro B1
  refine AO.op (O.assign rfl rfl) rfl rfl rfl ?_
  refine AO.nil ?_
  refine AQ.thenN ?_
  refine AW.seq ?_
  refine AW.seq ?_
  refine AW.region ?_
  refine AO.op (O.fieldAddr rfl rfl) rfl rfl rfl ?_
  refine AO.op (O.load rfl rfl (by repeat (exact List.Mem.head _)) (by rfl)) rfl rfl rfl ?_
  refine AO.nil ?_
  refine AQ.thenN ?_
  refine AW.block ?_
  refine AW.seq ?_
  refine AW.region ?_
  refine AO.op (O.eql rfl rfl rfl (by exact beq_eq_false_iff_ne.2 (by omega))) rfl rfl rfl ?_
  refine AO.op (O.assign rfl rfl) rfl rfl rfl ?_
  refine AO.nil ?_
  refine AQ.thenN ?_
  refine AW.condF rfl ?_
  refine AW.seq ?_
  refine AW.region ?_
  refine AO.op (O.eql rfl rfl rfl (by exact beq_eq_false_iff_ne.2 (by omega))) rfl rfl rfl ?_
  refine AO.op (O.assign rfl rfl) rfl rfl rfl ?_
  refine AO.nil ?_
  refine AQ.thenN ?_
  refine AW.condF rfl ?_
  refine AW.regionD 17 (by kernel_rfl) (by kernel_rfl) ?_
  simp only [List.take_succ_cons, List.take_zero, List.drop_succ_cons, List.drop_zero]
  refine FA.op (O.move rfl rfl) rfl rfl rfl rfl ?_
  refine FA.op (O.nilCheck rfl rfl) rfl rfl rfl rfl ?_
  refine FA.op (O.fieldAddr rfl rfl) rfl rfl rfl rfl ?_
  refine FA.op (O.load rfl rfl (by repeat (first | exact List.Mem.head _ | refine List.Mem.tail _ ?_)) (by rfl)) rfl rfl rfl rfl ?_
  (refine FA.op (O.loadK rfl rfl (by repeat (exact List.Mem.head _)) (by (dsimp only [List.set, List.cons_append, List.nil_append, List.take, List.drop]; done)) (by rfl)) rfl rfl rfl rfl ?_)
  refine FA.op (O.call rfl Tryz.func114 rfl rfl rfl (majorB_fn hb)) rfl rfl rfl rfl ?_
  refine FA.op (O.extract rfl rfl rfl) rfl rfl rfl rfl ?_
  refine FA.op (O.extract rfl rfl rfl) rfl rfl rfl rfl ?_
  refine FA.op (O.call rfl Tryz.func113 rfl rfl rfl (head_fn 2 (b.length : Int) ⟨by omega, by omega⟩ ⟨by omega, by omega⟩)) rfl rfl rfl rfl ?_
  refine FA.op (O.lenR rfl rfl) rfl rfl rfl rfl ?_
  refine FA.op (O.fieldAddr rfl rfl) rfl rfl rfl rfl ?_
  refine FA.op (O.load rfl rfl (by repeat (exact List.Mem.head _)) (by rfl)) rfl rfl rfl rfl ?_
  refine FA.op (O.lenR rfl rfl) rfl rfl rfl rfl ?_
  refine FA.op (O.add rfl rfl rfl (by exact wI64 (by omega))) rfl rfl rfl rfl ?_
  refine FA.op (O.add rfl rfl rfl (by exact wI64 (by omega))) rfl rfl rfl rfl ?_
  refine FA.op (O.nilCheck rfl rfl) rfl rfl rfl rfl ?_
  refine FA.op (O.fieldAddr rfl rfl) rfl rfl rfl rfl ?_
  refine FA.nil ?_
  simp only [chosen, List.nil_append, List.cons_append, List.append_nil]
  (refine AO.store (i := 1) rfl rfl rfl rfl rfl rfl (by rfl) (by rfl) (by rfl) (by (dsimp only [List.set, List.cons_append, List.nil_append, List.take, List.drop]; done)) (by (dsimp only [List.set, List.cons_append, List.nil_append, List.take, List.drop]; done)) ?_)
  refine AO.nil ?_
  refine AQ.blockN ?_
  refine AQ.thenN ?_
  refine AW.seq ?_
  refine AW.region ?_
  refine AO.op (O.move rfl rfl) rfl rfl rfl ?_
  refine AO.op (O.nilCheck rfl rfl) rfl rfl rfl ?_
  refine AO.op (O.fieldAddr rfl rfl) rfl rfl rfl ?_
  refine AO.op (O.load rfl rfl (by repeat (first | exact List.Mem.head _ | refine List.Mem.tail _ ?_)) (by rfl)) rfl rfl rfl ?_
  refine AO.op (O.leq rfl rfl rfl (by exact bTrue (by omega))) rfl rfl rfl ?_
  refine AO.op (O.assign rfl rfl) rfl rfl rfl ?_
  refine AO.nil ?_
  refine AQ.thenN ?_
  refine AW.ret ?_
  refine AQ.ret1 rfl rfl ⟨_, by repeat (first | exact List.Sublist.slnil | refine List.Sublist.cons_cons _ ?_ | refine List.Sublist.cons _ ?_), List.Perm.refl _⟩ (⟨rfl, rfl⟩)
theorem spendA_fn {B m : Nat} {xs : List AV} {it sz : Int} (hm : m < 24) (hs : 0 ≤ sz ∧ sz < 4000) : Sp Tryz.prog 117 [ptr B, .agg [.val (.int .i64 4), .val (.int .u64 0), roB [], .ro false m xs]] [chkB B it sz] (IsM (.val (.bool true)) (chkB B it (sz + 1))) := by
  have z1 : ([u8 (32 * 4 + (m : Int))] : List UInt8).length = 1 := rfl
  have z2 : ([] : List UInt8).length = 0 := rfl
  refine Sp.enter Tryz.func117 rfl _ Tryz.ntmps117 rfl (fun w0 R0 => ?_)
  refine AW.seq ?_
  refine AW.region ?_
  refine AO.opB (O.box rfl rfl rfl rfl rfl) rfl rfl rfl ?_
  intro B1
  refine AO.op (O.assign rfl rfl) rfl rfl rfl ?_
  refine AO.nil ?_
  refine AQ.thenN ?_
  refine AW.seq ?_
  refine AW.seq ?_
  refine AW.region ?_
  refine AO.op (O.fieldAddr rfl rfl) rfl rfl rfl ?_
  refine AO.op (O.load rfl rfl (by repeat (exact List.Mem.head _)) (by rfl)) rfl rfl rfl ?_
  refine AO.nil ?_
  refine AQ.thenN ?_
  refine AW.block ?_
  refine AW.seq ?_
  refine AW.region ?_
  refine AO.op (O.eql rfl rfl rfl (by exact beq_eq_false_iff_ne.2 (by omega))) rfl rfl rfl ?_
  refine AO.op (O.assign rfl rfl) rfl rfl rfl ?_
  refine AO.nil ?_
  refine AQ.thenN ?_
  refine AW.condF rfl ?_
  refine AW.seq ?_
  refine AW.region ?_
  refine AO.op (O.eql rfl rfl rfl (by exact beq_eq_false_iff_ne.2 (by omega))) rfl rfl rfl ?_
  refine AO.op (O.assign rfl rfl) rfl rfl rfl ?_
  refine AO.nil ?_
  refine AQ.thenN ?_
  refine AW.condF rfl ?_
  refine AW.regionD 17 (by kernel_rfl) (by kernel_rfl) ?_
  simp only [List.take_succ_cons, List.take_zero, List.drop_succ_cons, List.drop_zero]
  refine FA.op (O.move rfl rfl) rfl rfl rfl rfl ?_
  refine FA.op (O.nilCheck rfl rfl) rfl rfl rfl rfl ?_
  refine FA.op (O.fieldAddr rfl rfl) rfl rfl rfl rfl ?_
  refine FA.op (O.load rfl rfl (by repeat (first | exact List.Mem.head _ | refine List.Mem.tail _ ?_)) (by rfl)) rfl rfl rfl rfl ?_
  (refine FA.op (O.loadK rfl rfl (by repeat (exact List.Mem.head _)) (by (dsimp only [List.set, List.cons_append, List.nil_append, List.take, List.drop]; done)) (by rfl)) rfl rfl rfl rfl ?_)
  refine FA.op (O.call rfl Tryz.func114 rfl rfl rfl (majorA_fn hm)) rfl rfl rfl rfl ?_
  refine FA.op (O.extract rfl rfl rfl) rfl rfl rfl rfl ?_
  refine FA.op (O.extract rfl rfl rfl) rfl rfl rfl rfl ?_
  refine FA.op (O.call rfl Tryz.func113 rfl rfl rfl (head_fn 4 (m : Int) ⟨by omega, by omega⟩ ⟨by omega, by omega⟩)) rfl rfl rfl rfl ?_
  refine FA.op (O.lenR rfl rfl) rfl rfl rfl rfl ?_
  refine FA.op (O.fieldAddr rfl rfl) rfl rfl rfl rfl ?_
  refine FA.op (O.load rfl rfl (by repeat (exact List.Mem.head _)) (by rfl)) rfl rfl rfl rfl ?_
  refine FA.op (O.lenR rfl rfl) rfl rfl rfl rfl ?_
  refine FA.op (O.add rfl rfl rfl (by exact wI64 (by omega))) rfl rfl rfl rfl ?_
  refine FA.op (O.add rfl rfl rfl (by exact wI64 (by omega))) rfl rfl rfl rfl ?_
  refine FA.op (O.nilCheck rfl rfl) rfl rfl rfl rfl ?_
  refine FA.op (O.fieldAddr rfl rfl) rfl rfl rfl rfl ?_
  refine FA.nil ?_
  simp only [chosen, List.nil_append, List.cons_append, List.append_nil]
  (refine AO.store (i := 1) rfl rfl rfl rfl rfl rfl (by rfl) (by rfl) (by rfl) (by (dsimp only [List.set, List.cons_append, List.nil_append, List.take, List.drop]; done)) (by (dsimp only [List.set, List.cons_append, List.nil_append, List.take, List.drop]; done)) ?_)
  refine AO.nil ?_
  refine AQ.blockN ?_
  refine AQ.thenN ?_
  refine AW.seq ?_
  refine AW.region ?_
  refine AO.op (O.move rfl rfl) rfl rfl rfl ?_
  refine AO.op (O.nilCheck rfl rfl) rfl rfl rfl ?_
  refine AO.op (O.fieldAddr rfl rfl) rfl rfl rfl ?_
  refine AO.op (O.load rfl rfl (by repeat (first | exact List.Mem.head _ | refine List.Mem.tail _ ?_)) (by rfl)) rfl rfl rfl ?_
  refine AO.op (O.leq rfl rfl rfl (by exact bTrue (by omega))) rfl rfl rfl ?_
  refine AO.op (O.assign rfl rfl) rfl rfl rfl ?_
  refine AO.nil ?_
  refine AQ.thenN ?_
  refine AW.ret ?_
  refine AQ.ret1 rfl rfl ⟨_, by repeat (first | exact List.Sublist.slnil | refine List.Sublist.cons_cons _ ?_ | refine List.Sublist.cons _ ?_), List.Perm.refl _⟩ (⟨rfl, rfl⟩)
theorem chkL_fn {B : Nat} {k n it sz lv : Int} (hk : k = 0 ∨ k = 1) (hn : 0 ≤ n ∧ n < 24) (hi : 0 ≤ it ∧ it < 200) (hs : 0 ≤ sz ∧ sz < 4000) : Sp Tryz.prog 95 [ptr B, .agg [.val (.int .i64 k), .val (.int .u64 n), roB [], .ro false 0 []], .val (.int .i64 lv)] [chkB B it sz] (IsM (.val (.bool true)) (chkB B (it + 1) (sz + 1))) := by
  have z2 : ([] : List UInt8).length = 0 := rfl
  refine Sp.enter Tryz.func95 rfl _ Tryz.ntmps95 rfl (fun w0 R0 => ?_)
  refine AW.seq ?_
  refine AW.region ?_
  refine AO.opB (O.box rfl rfl rfl rfl rfl) rfl rfl rfl ?_
  intro B1
  refine AO.op (O.assign rfl rfl) rfl rfl rfl ?_
  refine AO.nil ?_
  refine AQ.thenN ?_
  refine AW.seq ?_
  refine AW.region ?_
  refine AO.op (O.move rfl rfl) rfl rfl rfl ?_
  refine AO.op (O.nilCheck rfl rfl) rfl rfl rfl ?_
  refine AO.op (O.fieldAddr rfl rfl) rfl rfl rfl ?_
  refine AO.op (O.load rfl rfl (by repeat (first | exact List.Mem.head _ | refine List.Mem.tail _ ?_)) (by rfl)) rfl rfl rfl ?_
  refine AO.op (O.add rfl rfl rfl (by exact wI64 (by omega))) rfl rfl rfl ?_
  refine AO.op (O.nilCheck rfl rfl) rfl rfl rfl ?_
  refine AO.op (O.fieldAddr rfl rfl) rfl rfl rfl ?_
  (refine AO.store (i := 1) rfl rfl rfl rfl rfl rfl (by rfl) (by rfl) (by rfl) (by (dsimp only [List.set, List.cons_append, List.nil_append, List.take, List.drop]; done)) (by (dsimp only [List.set, List.cons_append, List.nil_append, List.take, List.drop]; done)) ?_)
  refine AO.nil ?_
  refine AQ.thenN ?_
  refine AW.seq ?_
  refine AW.seq ?_
  refine AW.region ?_
  refine AO.op (O.move rfl rfl) rfl rfl rfl ?_
  refine AO.op (O.nilCheck rfl rfl) rfl rfl rfl ?_
  refine AO.op (O.fieldAddr rfl rfl) rfl rfl rfl ?_
  refine AO.op (O.load rfl rfl (by repeat (first | exact List.Mem.head _ | refine List.Mem.tail _ ?_)) (by rfl)) rfl rfl rfl ?_
  refine AO.op (O.gtr rfl rfl rfl (by exact bFalse (by omega))) rfl rfl rfl ?_
  refine AO.op (O.move rfl rfl) rfl rfl rfl ?_
  refine AO.op (O.fieldAddr rfl rfl) rfl rfl rfl ?_
  refine AO.op (O.load rfl rfl (by repeat (exact List.Mem.head _)) (by rfl)) rfl rfl rfl ?_
  refine AO.op (O.lenR rfl rfl) rfl rfl rfl ?_
  refine AO.op (O.gtr rfl rfl rfl (by exact bFalse (by omega))) rfl rfl rfl ?_
  refine AO.op (O.pickF rfl rfl rfl) rfl rfl rfl ?_
  refine AO.op (O.move rfl rfl) rfl rfl rfl ?_
  refine AO.op (O.fieldAddr rfl rfl) rfl rfl rfl ?_
  refine AO.op (O.load rfl rfl (by repeat (exact List.Mem.head _)) (by rfl)) rfl rfl rfl ?_
  refine AO.op (O.lenR rfl rfl) rfl rfl rfl ?_
  refine AO.op (O.gtr rfl rfl rfl (by exact bFalse (by omega))) rfl rfl rfl ?_
  refine AO.op (O.pickF rfl rfl rfl) rfl rfl rfl ?_
  refine AO.nil ?_
  refine AQ.thenN ?_
  refine AW.condF rfl ?_
  refine AW.skip ?_
  refine AQ.thenN ?_
  refine AW.seq ?_
  refine AW.seq ?_
  refine AW.region ?_
  (refine AO.op (O.loadK rfl rfl (by repeat (exact List.Mem.head _)) (by (dsimp only [List.set, List.cons_append, List.nil_append, List.take, List.drop]; done)) (by rfl)) rfl rfl rfl ?_)
  refine AO.op (O.call rfl Tryz.func116 rfl rfl rfl (plainL_fn hk)) rfl rfl rfl ?_
  refine AO.op (O.move rfl rfl) rfl rfl rfl ?_
  refine AO.op (O.extract rfl rfl rfl) rfl rfl rfl ?_
  refine AO.op (O.extract rfl rfl rfl) rfl rfl rfl ?_
  refine AO.op (O.assign rfl rfl) rfl rfl rfl ?_
  refine AO.op (O.assign rfl rfl) rfl rfl rfl ?_
  refine AO.nil ?_
  refine AQ.thenN ?_
  refine AW.seq ?_
  refine AW.region ?_
  refine AO.op (O.move rfl rfl) rfl rfl rfl ?_
  refine AO.nil ?_
  refine AQ.thenN ?_
  refine AW.condT rfl ?_
  refine AW.seq ?_
  refine AW.region ?_
  refine AO.op (O.move rfl rfl) rfl rfl rfl ?_
  refine AO.op (O.move rfl rfl) rfl rfl rfl ?_
  refine AO.op (O.move rfl rfl) rfl rfl rfl ?_
  (refine AO.op (O.loadK rfl rfl (by repeat (exact List.Mem.head _)) (by (dsimp only [List.set, List.cons_append, List.nil_append, List.take, List.drop]; done)) (by rfl)) rfl rfl rfl ?_)
  (refine AO.callM1w (i := 1) rfl rfl Tryz.func117 rfl rfl rfl rfl rfl rfl (spendL_fn hk hn hs) (by (dsimp only [List.set, List.cons_append, List.nil_append, List.take, List.drop]; done)) ?_)
  refine AO.op (O.pickT rfl rfl rfl) rfl rfl rfl ?_
  refine AO.op (O.assign rfl rfl) rfl rfl rfl ?_
  refine AO.nil ?_
  refine AQ.thenN ?_
  refine AW.ret ?_
  refine AQ.thenR ?_
  refine AQ.ret1 rfl rfl ⟨_, by repeat (first | exact List.Sublist.slnil | refine List.Sublist.cons_cons _ ?_ | refine List.Sublist.cons _ ?_), List.Perm.refl _⟩ (⟨rfl, rfl⟩)
theorem chkB_fn {B : Nat} {b : List UInt8} {it sz lv : Int} (hb : b.length < 24) (hi : 0 ≤ it ∧ it < 200) (hs : 0 ≤ sz ∧ sz < 4000) : Sp Tryz.prog 95 [ptr B, .agg [.val (.int .i64 2), .val (.int .u64 0), roB b, .ro false 0 []], .val (.int .i64 lv)] [chkB B it sz] (IsM (.val (.bool true)) (chkB B (it + 1) (sz + (1 + (b.length : Int))))) := by
  refine Sp.enter Tryz.func95 rfl _ Tryz.ntmps95 rfl (fun w0 R0 => ?_)
  refine AW.seq ?_
  refine AW.region ?_
  refine AO.opB (O.box rfl rfl rfl rfl rfl) rfl rfl rfl ?_
  intro B1
  refine AO.op (O.assign rfl rfl) rfl rfl rfl ?_
  refine AO.nil ?_
  refine AQ.thenN ?_
  refine AW.seq ?_
  refine AW.region ?_
  refine AO.op (O.move rfl rfl) rfl rfl rfl ?_
  refine AO.op (O.nilCheck rfl rfl) rfl rfl rfl ?_
  refine AO.op (O.fieldAddr rfl rfl) rfl rfl rfl ?_
  refine AO.op (O.load rfl rfl (by repeat (first | exact List.Mem.head _ | refine List.Mem.tail _ ?_)) (by rfl)) rfl rfl rfl ?_
  refine AO.op (O.add rfl rfl rfl (by exact wI64 (by omega))) rfl rfl rfl ?_
  refine AO.op (O.nilCheck rfl rfl) rfl rfl rfl ?_
  refine AO.op (O.fieldAddr rfl rfl) rfl rfl rfl ?_
  (refine AO.store (i := 1) rfl rfl rfl rfl rfl rfl (by rfl) (by rfl) (by rfl) (by (dsimp only [List.set, List.cons_append, List.nil_append, List.take, List.drop]; done)) (by (dsimp only [List.set, List.cons_append, List.nil_append, List.take, List.drop]; done)) ?_)
  refine AO.nil ?_
  refine AQ.thenN ?_
  refine AW.seq ?_
  refine AW.seq ?_
  refine AW.region ?_
  refine AO.op (O.move rfl rfl) rfl rfl rfl ?_
  refine AO.op (O.nilCheck rfl rfl) rfl rfl rfl ?_
  refine AO.op (O.fieldAddr rfl rfl) rfl rfl rfl ?_
  refine AO.op (O.load rfl rfl (by repeat (first | exact List.Mem.head _ | refine List.Mem.tail _ ?_)) (by rfl)) rfl rfl rfl ?_
  refine AO.op (O.gtr rfl rfl rfl (by exact bFalse (by omega))) rfl rfl rfl ?_
  refine AO.op (O.move rfl rfl) rfl rfl rfl ?_
  refine AO.op (O.fieldAddr rfl rfl) rfl rfl rfl ?_
  refine AO.op (O.load rfl rfl (by repeat (exact List.Mem.head _)) (by rfl)) rfl rfl rfl ?_
  refine AO.op (O.lenR rfl rfl) rfl rfl rfl ?_
  refine AO.op (O.gtr rfl rfl rfl (by exact bFalse (by omega))) rfl rfl rfl ?_
  refine AO.op (O.pickF rfl rfl rfl) rfl rfl rfl ?_
  refine AO.op (O.move rfl rfl) rfl rfl rfl ?_
  refine AO.op (O.fieldAddr rfl rfl) rfl rfl rfl ?_
  refine AO.op (O.load rfl rfl (by repeat (exact List.Mem.head _)) (by rfl)) rfl rfl rfl ?_
  refine AO.op (O.lenR rfl rfl) rfl rfl rfl ?_
  refine AO.op (O.gtr rfl rfl rfl (by exact bFalse (by omega))) rfl rfl rfl ?_
  refine AO.op (O.pickF rfl rfl rfl) rfl rfl rfl ?_
  refine AO.nil ?_
  refine AQ.thenN ?_
  refine AW.condF rfl ?_
  refine AW.skip ?_
  refine AQ.thenN ?_
  refine AW.seq ?_
  refine AW.seq ?_
  refine AW.region ?_
  (refine AO.op (O.loadK rfl rfl (by repeat (exact List.Mem.head _)) (by (dsimp only [List.set, List.cons_append, List.nil_append, List.take, List.drop]; done)) (by rfl)) rfl rfl rfl ?_)
  refine AO.op (O.call rfl Tryz.func116 rfl rfl rfl (plainB_fn)) rfl rfl rfl ?_
  refine AO.op (O.move rfl rfl) rfl rfl rfl ?_
  refine AO.op (O.extract rfl rfl rfl) rfl rfl rfl ?_
  refine AO.op (O.extract rfl rfl rfl) rfl rfl rfl ?_
  refine AO.op (O.assign rfl rfl) rfl rfl rfl ?_
  refine AO.op (O.assign rfl rfl) rfl rfl rfl ?_
  refine AO.nil ?_
  refine AQ.thenN ?_
  refine AW.seq ?_
  refine AW.region ?_
  refine AO.op (O.move rfl rfl) rfl rfl rfl ?_
  refine AO.nil ?_
  refine AQ.thenN ?_
  refine AW.condT rfl ?_
  refine AW.seq ?_
  refine AW.region ?_
  refine AO.op (O.move rfl rfl) rfl rfl rfl ?_
  refine AO.op (O.move rfl rfl) rfl rfl rfl ?_
  refine AO.op (O.move rfl rfl) rfl rfl rfl ?_
  (refine AO.op (O.loadK rfl rfl (by repeat (exact List.Mem.head _)) (by (dsimp only [List.set, List.cons_append, List.nil_append, List.take, List.drop]; done)) (by rfl)) rfl rfl rfl ?_)
  (refine AO.callM1w (i := 1) rfl rfl Tryz.func117 rfl rfl rfl rfl rfl rfl (spendB_fn hb hs) (by (dsimp only [List.set, List.cons_append, List.nil_append, List.take, List.drop]; done)) ?_)
  refine AO.op (O.pickT rfl rfl rfl) rfl rfl rfl ?_
  refine AO.op (O.assign rfl rfl) rfl rfl rfl ?_
  refine AO.nil ?_
  refine AQ.thenN ?_
  refine AW.ret ?_
  refine AQ.thenR ?_
  refine AQ.ret1 rfl rfl ⟨_, by repeat (first | exact List.Sublist.slnil | refine List.Sublist.cons_cons _ ?_ | refine List.Sublist.cons _ ?_), List.Perm.refl _⟩ (⟨rfl, rfl⟩)
/-! ### Trees -/
theorem enc_leaf {k n : Int} {b : List UInt8} : (It.mk k n b []).enc = u8 (32 * k + hnI k n b 0) :: b := by
  rw [It.enc, encL, List.append_nil]; rfl
theorem enc_arr {n : Int} {l : List It} : (It.mk 4 n [] l).enc = u8 (32 * 4 + (l.length : Int)) :: encL l := by
  rw [It.enc]; rfl
theorem node_mk {k n : Int} {b : List UInt8} {l : List It} : (It.mk k n b l).nodes = 1 + nodesL l := by rw [It.nodes]
abbrev ChkSp (B : Nat) (x : It) (lv : Int) : Prop := ∀ it sz : Int, 0 ≤ it → it + x.nodes < 200 → 0 ≤ sz → sz + x.enc.length < 4000 →
  Sp Tryz.prog 95 [ptr B, .agg x.cells, .val (.int .i64 lv)] [chkB B it sz] (IsM (.val (.bool true)) (chkB B (it + x.nodes) (sz + x.enc.length)))
theorem chk_leaf {B : Nat} {x : It} (h : leafI x) (lv : Int) : ChkSp B x lv := by
  obtain ⟨k, n, b, l⟩ := x
  intro it sz h1 h2 h3 h4
  rcases h with ⟨rfl, ⟨hk, hn, hn2, rfl⟩ | ⟨rfl, rfl, hb⟩⟩
  · rw [enc_leaf, node_mk, nodesL] at *
    simp only [List.length_cons, List.length_nil] at h4 ⊢
    exact chkL_fn hk ⟨hn, hn2⟩ ⟨h1, by omega⟩ ⟨h3, by omega⟩
  · rw [enc_leaf, node_mk, nodesL] at *
    simp only [List.length_cons] at h4 ⊢
    have := chkB_fn (B := B) (it := it) (sz := sz) (lv := lv) hb ⟨h1, by omega⟩ ⟨h3, by omega⟩
    rw [show sz + (1 + (b.length : Int)) = sz + ((b.length + 1 : Nat) : Int) by omega] at this
    exact this
theorem chk_arr {B : Nat} {l : List It} {lv : Int} (hlv : 0 ≤ lv ∧ lv < 8) (hm : l.length < 24) (hS : ∀ q, q < l.length → ChkSp B (itat l q) (lv + 1)) : ChkSp B (.mk 4 0 [] l) lv := by
  intro it sz h1 h2 h3 h4
  rw [enc_arr, node_mk] at *
  simp only [List.length_cons] at h4 ⊢
  have hs : 0 ≤ sz ∧ sz < 4000 := by omega
  have z2 : ([] : List UInt8).length = 0 := rfl
  show Sp Tryz.prog 95 [ptr B, .agg [.val (.int .i64 4), .val (.int .u64 0), roB [], .ro false l.length (itsA l)], .val (.int .i64 lv)] [chkB B it sz] _
  refine Sp.enter Tryz.func95 rfl _ Tryz.ntmps95 rfl (fun w0 R0 => ?_)
  refine AW.seq ?_
  refine AW.region ?_
  refine AO.opB (O.box rfl rfl rfl rfl rfl) rfl rfl rfl ?_
  intro B1
  refine AO.op (O.assign rfl rfl) rfl rfl rfl ?_
  refine AO.nil ?_
  refine AQ.thenN ?_
  refine AW.seq ?_
  refine AW.region ?_
  refine AO.op (O.move rfl rfl) rfl rfl rfl ?_
  refine AO.op (O.nilCheck rfl rfl) rfl rfl rfl ?_
  refine AO.op (O.fieldAddr rfl rfl) rfl rfl rfl ?_
  refine AO.op (O.load rfl rfl (by repeat (first | exact List.Mem.head _ | refine List.Mem.tail _ ?_)) (by rfl)) rfl rfl rfl ?_
  refine AO.op (O.add rfl rfl rfl (by exact wI64 (by omega))) rfl rfl rfl ?_
  refine AO.op (O.nilCheck rfl rfl) rfl rfl rfl ?_
  refine AO.op (O.fieldAddr rfl rfl) rfl rfl rfl ?_
  (refine AO.store (i := 1) rfl rfl rfl rfl rfl rfl (by rfl) (by rfl) (by rfl) (by (dsimp only [List.set, List.cons_append, List.nil_append, List.take, List.drop]; done)) (by (dsimp only [List.set, List.cons_append, List.nil_append, List.take, List.drop]; done)) ?_)
  refine AO.nil ?_
  refine AQ.thenN ?_
  refine AW.seq ?_
  refine AW.seq ?_
  refine AW.region ?_
  refine AO.op (O.move rfl rfl) rfl rfl rfl ?_
  refine AO.op (O.nilCheck rfl rfl) rfl rfl rfl ?_
  refine AO.op (O.fieldAddr rfl rfl) rfl rfl rfl ?_
  refine AO.op (O.load rfl rfl (by repeat (first | exact List.Mem.head _ | refine List.Mem.tail _ ?_)) (by rfl)) rfl rfl rfl ?_
  refine AO.op (O.gtr rfl rfl rfl (by exact bFalse (by omega))) rfl rfl rfl ?_
  refine AO.op (O.move rfl rfl) rfl rfl rfl ?_
  refine AO.op (O.fieldAddr rfl rfl) rfl rfl rfl ?_
  refine AO.op (O.load rfl rfl (by repeat (exact List.Mem.head _)) (by rfl)) rfl rfl rfl ?_
  refine AO.op (O.lenR rfl rfl) rfl rfl rfl ?_
  refine AO.op (O.gtr rfl rfl rfl (by exact bFalse (by omega))) rfl rfl rfl ?_
  refine AO.op (O.pickF rfl rfl rfl) rfl rfl rfl ?_
  refine AO.op (O.move rfl rfl) rfl rfl rfl ?_
  refine AO.op (O.fieldAddr rfl rfl) rfl rfl rfl ?_
  refine AO.op (O.load rfl rfl (by repeat (exact List.Mem.head _)) (by rfl)) rfl rfl rfl ?_
  refine AO.op (O.lenR rfl rfl) rfl rfl rfl ?_
  refine AO.op (O.gtr rfl rfl rfl (by exact bFalse (by omega))) rfl rfl rfl ?_
  refine AO.op (O.pickF rfl rfl rfl) rfl rfl rfl ?_
  refine AO.nil ?_
  refine AQ.thenN ?_
  refine AW.condF rfl ?_
  refine AW.skip ?_
  refine AQ.thenN ?_
  refine AW.seq ?_
  refine AW.seq ?_
  refine AW.region ?_
  (refine AO.op (O.loadK rfl rfl (by repeat (exact List.Mem.head _)) (by (dsimp only [List.set, List.cons_append, List.nil_append, List.take, List.drop]; done)) (by rfl)) rfl rfl rfl ?_)
  refine AO.op (O.call rfl Tryz.func116 rfl rfl rfl (plainA_fn)) rfl rfl rfl ?_
  refine AO.op (O.move rfl rfl) rfl rfl rfl ?_
  refine AO.op (O.extract rfl rfl rfl) rfl rfl rfl ?_
  refine AO.op (O.extract rfl rfl rfl) rfl rfl rfl ?_
  refine AO.op (O.assign rfl rfl) rfl rfl rfl ?_
  refine AO.op (O.assign rfl rfl) rfl rfl rfl ?_
  refine AO.nil ?_
  refine AQ.thenN ?_
  refine AW.seq ?_
  refine AW.region ?_
  refine AO.op (O.move rfl rfl) rfl rfl rfl ?_
  refine AO.nil ?_
  refine AQ.thenN ?_
  refine AW.condF rfl ?_
  refine AW.skip ?_
  refine AQ.thenN ?_
  refine AW.seq ?_
  refine AW.seq ?_
  refine AW.region ?_
  refine AO.op (O.fieldAddr rfl rfl) rfl rfl rfl ?_
  refine AO.op (O.load rfl rfl (by repeat (exact List.Mem.head _)) (by rfl)) rfl rfl rfl ?_
  refine AO.op (O.lss rfl rfl rfl (by exact bFalse (by omega))) rfl rfl rfl ?_
  refine AO.op (O.move rfl rfl) rfl rfl rfl ?_
  refine AO.op (O.fieldAddr rfl rfl) rfl rfl rfl ?_
  refine AO.op (O.load rfl rfl (by repeat (exact List.Mem.head _)) (by rfl)) rfl rfl rfl ?_
  refine AO.op (O.gtr rfl rfl rfl (by exact bFalse (by omega))) rfl rfl rfl ?_
  refine AO.op (O.pickF rfl rfl rfl) rfl rfl rfl ?_
  refine AO.op (O.move rfl rfl) rfl rfl rfl ?_
  refine AO.op (O.move rfl rfl) rfl rfl rfl ?_
  refine AO.op (O.geq rfl rfl rfl (by exact bFalse (by omega))) rfl rfl rfl ?_
  refine AO.op (O.pickF rfl rfl rfl) rfl rfl rfl ?_
  refine AO.op (O.move rfl rfl) rfl rfl rfl ?_
  refine AO.op (O.fieldAddr rfl rfl) rfl rfl rfl ?_
  refine AO.op (O.load rfl rfl (by repeat (exact List.Mem.head _)) (by rfl)) rfl rfl rfl ?_
  refine AO.op (O.lenR rfl rfl) rfl rfl rfl ?_
  refine AO.op (O.gtr rfl rfl rfl (by exact bFalse (by omega))) rfl rfl rfl ?_
  refine AO.op (O.pickF rfl rfl rfl) rfl rfl rfl ?_
  refine AO.nil ?_
  refine AQ.thenN ?_
  refine AW.condF rfl ?_
  refine AW.skip ?_
  refine AQ.thenN ?_
  refine AW.seq ?_
  refine AW.seq ?_
  refine AW.region ?_
  refine AO.op (O.fieldAddr rfl rfl) rfl rfl rfl ?_
  refine AO.op (O.load rfl rfl (by repeat (exact List.Mem.head _)) (by rfl)) rfl rfl rfl ?_
  refine AO.op (O.eql rfl rfl rfl (by exact beq_eq_false_iff_ne.2 (by omega))) rfl rfl rfl ?_
  refine AO.op (O.move rfl rfl) rfl rfl rfl ?_
  refine AO.no rfl rfl rfl ?_
  refine AO.no rfl rfl rfl ?_
  refine AO.no rfl rfl rfl ?_
  refine AO.no rfl rfl rfl ?_
  refine AO.op (O.pickF rfl rfl rfl) rfl rfl rfl ?_
  refine AO.op (O.move rfl rfl) rfl rfl rfl ?_
  refine AO.op (O.fieldAddr rfl rfl) rfl rfl rfl ?_
  refine AO.op (O.load rfl rfl (by repeat (exact List.Mem.head _)) (by rfl)) rfl rfl rfl ?_
  refine AO.op (O.neq rfl rfl rfl (by exact bne_iff_ne.2 (by omega))) rfl rfl rfl ?_
  refine AO.op (O.move rfl rfl) rfl rfl rfl ?_
  refine AO.op (O.fieldAddr rfl rfl) rfl rfl rfl ?_
  refine AO.op (O.load rfl rfl (by repeat (exact List.Mem.head _)) (by rfl)) rfl rfl rfl ?_
  refine AO.op (O.neq rfl rfl rfl (by exact bne_eq_false_iff_eq.2 (by omega))) rfl rfl rfl ?_
  refine AO.op (O.pickT rfl rfl rfl) rfl rfl rfl ?_
  refine AO.op (O.pickF rfl rfl rfl) rfl rfl rfl ?_
  refine AO.op (O.move rfl rfl) rfl rfl rfl ?_
  refine AO.op (O.fieldAddr rfl rfl) rfl rfl rfl ?_
  refine AO.op (O.load rfl rfl (by repeat (exact List.Mem.head _)) (by rfl)) rfl rfl rfl ?_
  refine AO.op (O.eql rfl rfl rfl (by exact beq_eq_false_iff_ne.2 (by omega))) rfl rfl rfl ?_
  refine AO.op (O.move rfl rfl) rfl rfl rfl ?_
  refine AO.no rfl rfl rfl ?_
  refine AO.no rfl rfl rfl ?_
  refine AO.no rfl rfl rfl ?_
  refine AO.no rfl rfl rfl ?_
  refine AO.no rfl rfl rfl ?_
  refine AO.op (O.pickF rfl rfl rfl) rfl rfl rfl ?_
  refine AO.op (O.pickF rfl rfl rfl) rfl rfl rfl ?_
  refine AO.nil ?_
  refine AQ.thenN ?_
  refine AW.condF rfl ?_
  refine AW.skip ?_
  refine AQ.thenN ?_
  refine AW.seq ?_
  refine AW.seq ?_
  refine AW.region ?_
  refine AO.op (O.move rfl rfl) rfl rfl rfl ?_
  (refine AO.op (O.loadK rfl rfl (by repeat (exact List.Mem.head _)) (by (dsimp only [List.set, List.cons_append, List.nil_append, List.take, List.drop]; done)) (by rfl)) rfl rfl rfl ?_)
  (refine AO.callM1 (i := 1) rfl rfl Tryz.func117 rfl rfl rfl rfl rfl rfl (spendA_fn hm hs) (by (dsimp only [List.set, List.cons_append, List.nil_append, List.take, List.drop]; done)) ?_)
  refine AO.op (O.not rfl rfl (by rfl)) rfl rfl rfl ?_
  refine AO.nil ?_
  refine AQ.thenN ?_
  refine AW.condF rfl ?_
  refine AW.skip ?_
  refine AQ.thenN ?_
  refine AW.seq ?_
  refine AW.seq ?_
  refine AW.region ?_
  refine AO.op (O.fieldAddr rfl rfl) rfl rfl rfl ?_
  refine AO.op (O.load rfl rfl (by repeat (exact List.Mem.head _)) (by rfl)) rfl rfl rfl ?_
  refine AO.op (O.lenR rfl rfl) rfl rfl rfl ?_
  refine AO.op (O.move rfl rfl) rfl rfl rfl ?_
  refine AO.nil ?_
  refine AQ.thenN ?_
  refine AW.block ?_
  have hnl : ∀ k, k ≤ l.length → nodesL (l.take k) ≤ nodesL l ∧ (encL (l.take k)).length ≤ (encL l).length := fun k hk => by
    have h5 := nodesL_app (l.take k) (l.drop k)
    have h6 := congrArg List.length (encL_app (l.take k) (l.drop k))
    rw [List.take_append_drop] at h5 h6
    rw [List.length_append] at h6
    omega
  refine AW.loopK [(0, _), (2, _), (4, _), (101, _), (102, _)] (fun nn E H => ∃ (k : Nat) (u v : Int), (k ≤ l.length) ∧ (u = it + 1 + (nodesL (l.take k) : Nat)) ∧ (v = sz + 1 + ((encL (l.take k)).length : Nat)) ∧ nn = l.length - k ∧ E = [(103, .val (.int .i64 (k : Int)))] ∧ H = [.blk B1 100 4 [.val (.int .i64 4), .val (.int .u64 0), roB [], .ro false l.length (itsA l)], chkB B u v]) _ (⟨0, it + 1, sz + 1, by omega, (by simp [nodesL]), (by simp [encL]), rfl, rfl, rfl⟩) (by repeat (first | exact envNil | refine envCons rfl ?_)) (by repeat (first | exact envNil | refine envCons rfl ?_)) (by repeat (first | exact subPnil | refine subPcons 0 rfl ?_)) ?_
  rintro nn E H ⟨k, u, v, hk, hu, hv, rfl, rfl, rfl⟩
  dsimp only [List.cons_append, List.nil_append]
  refine AW.seq ?_
  refine AW.region ?_
  refine AO.op (O.lss rfl rfl rfl (by rfl)) rfl rfl rfl ?_
  refine AO.nil ?_
  refine AQ.thenN ?_
  refine AW.seq ?_
  refine AW.split rfl (fun hlt => ?_) (fun hlt => ?_) <;> (try simp only [decide_eq_true_eq, decide_eq_false_iff_not, beq_iff_eq, beq_eq_false_iff_ne, bne_iff_ne, bne_eq_false_iff_eq, Bool.not_eq_true', Bool.not_eq_false', Bool.not_eq_true, Bool.not_eq_false, ne_eq, Int.not_lt, Int.not_le, Bool.and_eq_true, Bool.or_eq_true, Bool.or_eq_false_iff, Bool.and_eq_false_imp, strOf_toList, Decidable.not_not] at hlt)
  · skip
    have hkl : k < l.length := by omega
    obtain ⟨kk, nn', bb, ll, hx⟩ : ∃ kk nn' bb ll, itat l k = .mk kk nn' bb ll := by cases h : itat l k; exact ⟨_, _, _, _, rfl⟩
    have hg : ((itsA l).drop (Int.toNat (k : Int) * 4)).take 4 = [.val (.int .i64 kk), .val (.int .u64 nn'), roB bb, .ro false ll.length (itsA ll)] := by
      rw [getIt hkl (by omega), hx, It.cells]
    have hSk := hS k hkl
    rw [hx] at hSk
    unfold ChkSp at hSk
    rw [It.cells] at hSk
    have hsn := take_snoc itN hkl
    have e1 := nodesL_snoc (l.take k) (itat l k)
    have e2 := congrArg List.length (encL_snoc (l.take k) (itat l k))
    rw [← hsn, hx] at e1 e2
    rw [List.length_append] at e2
    have h5 := hnl (k + 1) (by omega)
    refine AW.skip ?_
    refine AQ.thenN ?_
    refine AW.seq ?_
    refine AW.block ?_
    refine AW.seq ?_
    refine AW.region ?_
    refine AO.op (O.idxR rfl rfl rfl ⟨(by omega), (by omega)⟩) rfl rfl rfl ?_
    refine AO.op (O.loadRK rfl rfl (by exact hg) (by rfl)) rfl rfl rfl ?_
    refine AO.opB (O.alloc rfl (by (dsimp only [zerosA, List.replicate, List.append, List.flatten, AV.cells, Value.cells, List.toList_toArray, List.map]; done)) (by rfl)) rfl rfl rfl ?_
    intro B2
    (refine AO.store (i := 0) rfl rfl rfl rfl rfl rfl (by rfl) (by rfl) (by rfl) (by (dsimp only [List.set, List.cons_append, List.nil_append, List.take, List.drop]; done)) (by (dsimp only [List.set, List.cons_append, List.nil_append, List.take, List.drop]; done)) ?_)
    refine AO.nil ?_
    refine AQ.thenN ?_
    refine AW.seq ?_
    refine AW.region ?_
    refine AO.op (O.move rfl rfl) rfl rfl rfl ?_
    refine AO.op (O.loadK rfl rfl (by repeat (exact List.Mem.head _)) (by rfl) (by rfl)) rfl rfl rfl ?_
    refine AO.op (O.move rfl rfl) rfl rfl rfl ?_
    refine AO.op (O.add rfl rfl rfl (by exact wI64 (by omega))) rfl rfl rfl ?_
    (refine AO.callM1 (i := 2) rfl rfl Tryz.func95 rfl rfl rfl rfl rfl rfl (hSk _ _ (by omega) (by omega) (by omega) (by omega)) (by (dsimp only [List.set, List.cons_append, List.nil_append, List.take, List.drop]; done)) ?_)
    refine AO.op (O.not rfl rfl (by rfl)) rfl rfl rfl ?_
    refine AO.nil ?_
    refine AQ.thenN ?_
    refine AW.condF rfl ?_
    refine AW.skip ?_
    refine AQ.blockN ?_
    refine AQ.thenN ?_
    refine AW.region ?_
    refine AO.op (O.add rfl rfl rfl (by exact wI64 (by omega))) rfl rfl rfl ?_
    refine AO.op (O.move rfl rfl) rfl rfl rfl ?_
    refine AO.nil ?_
    refine AQ.loopKN _ _ _ (by omega) (⟨k + 1, u + (It.mk kk nn' bb ll).nodes, v + (It.mk kk nn' bb ll).enc.length, by omega, (by omega), (by omega), rfl, rfl, rfl⟩) (by repeat (first | exact envNil | refine envCons rfl ?_)) (by repeat (first | exact envNil | refine envCons rfl ?_)) (by repeat (first | exact subPnil | refine subPcons 1 rfl ?_))
  · skip
    obtain rfl : k = l.length := by omega
    rw [List.take_length] at hu hv
    obtain rfl : u = it + ((1 + nodesL l : Nat) : Int) := by omega
    obtain rfl : v = sz + (((encL l).length + 1 : Nat) : Int) := by omega
    refine AW.exit ?_
    refine AQ.thenX ?_
    refine AQ.loopX ?_
    refine AQ.blockX rfl ?_
    refine AQ.thenN ?_
    refine AW.seq ?_
    refine AW.region ?_
    refine AO.op (O.fieldAddr rfl rfl) rfl rfl rfl ?_
    refine AO.op (O.load rfl rfl (by repeat (exact List.Mem.head _)) (by rfl)) rfl rfl rfl ?_
    refine AO.op (O.neq rfl rfl rfl (by exact bne_iff_ne.2 (by omega))) rfl rfl rfl ?_
    refine AO.op (O.move rfl rfl) rfl rfl rfl ?_
    refine AO.no rfl rfl rfl ?_
    refine AO.no rfl rfl rfl ?_
    refine AO.no rfl rfl rfl ?_
    refine AO.op (O.pickT rfl rfl rfl) rfl rfl rfl ?_
    refine AO.op (O.assign rfl rfl) rfl rfl rfl ?_
    refine AO.nil ?_
    refine AQ.thenN ?_
    refine AW.ret ?_
    refine AQ.ret1 rfl rfl ⟨_, by repeat (first | exact List.Sublist.slnil | refine List.Sublist.cons_cons _ ?_ | refine List.Sublist.cons _ ?_), List.Perm.refl _⟩ (⟨rfl, rfl⟩)
theorem chk_fn : ∀ (d : Nat) (x : It) (B : Nat) (lv : Int), x.ok d → 0 ≤ lv → lv + d ≤ 8 → ChkSp B x lv
  | 0, x, B, lv, h, _, _ => chk_leaf h lv
  | d + 1, .mk k n b l, B, lv, h, h1, h2 => by
    rcases h with h | ⟨rfl, rfl, rfl, h4, h5⟩
    · exact chk_leaf h lv
    · exact chk_arr ⟨h1, by omega⟩ h4 fun q hq => chk_fn d _ B (lv + 1) (h5 _ (getD_mem itN hq)) (by omega) (by omega)
theorem cvalid_fn (d : Nat) (x : It) (hx : x.ok d) (hd : d ≤ 8) (h1 : x.nodes < 200) (h2 : x.enc.length < 4000) : Sp Tryz.prog 77 [.agg x.cells] [] (Is (.val (.bool true))) := by
  obtain ⟨xs, hxs⟩ : ∃ xs, xs = x.cells := ⟨_, rfl⟩
  have hl : xs.length = 4 := by rw [hxs]; exact cells_len x
  have hS := chk_fn d x
  obtain ⟨k, n, b, l⟩ := x
  rw [It.cells]
  refine Sp.enter Tryz.func77 rfl _ Tryz.ntmps77 rfl (fun w0 R0 => ?_)
  refine AW.seq ?_
  refine AW.region ?_
  refine AO.opB (O.box rfl rfl rfl rfl rfl) rfl rfl rfl ?_
  intro B1
  refine AO.op (O.assign rfl rfl) rfl rfl rfl ?_
  refine AO.nil ?_
  refine AQ.thenN ?_
  refine AW.seq ?_
  refine AW.region ?_
  refine AO.opB (O.alloc rfl (by (dsimp only [zerosA, List.replicate, List.append, List.flatten, AV.cells, Value.cells, List.toList_toArray, List.map]; done)) (by rfl)) rfl rfl rfl ?_
  intro B2
  refine AO.nil ?_
  refine AQ.thenN ?_
  refine AW.seq ?_
  refine AW.region ?_
  refine AO.op (O.loadK rfl rfl (by repeat (first | exact List.Mem.head _ | refine List.Mem.tail _ ?_)) (by rfl) (by rfl)) rfl rfl rfl ?_
  (refine AO.callM1 (i := 0) rfl rfl Tryz.func95 rfl rfl rfl rfl rfl rfl (hS _ 0 hx (by omega) (by omega) 0 0 (by omega) (by omega) (by omega) (by omega)) (by (dsimp only [List.set, List.cons_append, List.nil_append, List.take, List.drop]; done)) ?_)
  refine AO.op (O.assign rfl rfl) rfl rfl rfl ?_
  refine AO.nil ?_
  refine AQ.thenN ?_
  refine AW.ret ?_
  refine AQ.ret1 rfl rfl ⟨_, List.nil_sublist _, .nil⟩ (⟨rfl, rfl⟩)
end Go.Proofs.YtoonnnifelnaiaaGreatDoor.By

namespace Go.Proofs.YtoonnnifelnaiaaGreatDoor.By
open Go.RowKit L A Dk
set_option linter.unusedVariables false
set_option maxRecDepth 20000
set_option linter.unusedSimpArgs false
attribute [local irreducible] AW AQ AO
theorem validN_fn : Sp Tryz.prog 77 [itA 1 2 [] 0 []] [] (Is (.val (.bool true))) := by
  have h := cvalid_fn 0 (.mk 1 2 [] []) ⟨rfl, .inl ⟨.inr rfl, by omega, by omega, rfl⟩⟩ (by omega) (by rw [node_mk]; simp [nodesL]) (by rw [enc_leaf]; simp)
  rw [It.cells, itsA] at h
  exact h
theorem validA_fn : Sp Tryz.prog 77 [itA 4 0 [] 1 (uintR 1)] [] (Is (.val (.bool true))) := by
  have hl : leafI (.mk 0 1 [] []) := ⟨rfl, .inl ⟨.inl rfl, by omega, by omega, rfl⟩⟩
  have h := cvalid_fn 1 (.mk 4 0 [] [.mk 0 1 [] []]) (.inr ⟨rfl, rfl, rfl, by simp, fun y hy => by obtain rfl := List.mem_singleton.1 hy; exact hl⟩) (by omega) (by simp [It.nodes, nodesL]) (by simp [It.enc, encL])
  simp only [It.cells, itsA, List.append_nil, List.length_cons, List.length_nil] at h
  exact h
theorem intN_fn : Sp Tryz.prog 37 [.val (.int .i64 (-3))] [] (Is (itA 1 2 [] 0 [])) := by
  refine Sp.enter Tryz.func37 rfl _ Tryz.ntmps37 rfl (fun w0 R0 => ?_)
  refine AW.seq ?_
  refine AW.region ?_
  refine AO.opB (O.alloc rfl (by (dsimp only [zerosA, List.replicate, List.append, List.flatten, AV.cells, Value.cells, List.toList_toArray, List.map]; done)) (by rfl)) rfl rfl rfl ?_
  intro B1
  refine AO.nil ?_
  refine AQ.thenN ?_
  refine AW.seq ?_
  refine AW.seq ?_
  refine AW.region ?_
  refine AO.op (O.move rfl rfl) rfl rfl rfl ?_
  refine AO.op (O.lss rfl rfl rfl (by exact bTrue (by omega))) rfl rfl rfl ?_
  refine AO.nil ?_
  refine AQ.thenN ?_
  refine AW.condT rfl ?_
  refine AW.seq ?_
  refine AW.region ?_
  refine AO.op (O.move rfl rfl) rfl rfl rfl ?_
  refine AO.op (O.sub rfl rfl rfl (by exact wI64 (by omega))) rfl rfl rfl ?_
  refine AO.op (O.conv rfl rfl (by exact wU64 (by omega))) rfl rfl rfl ?_
  refine AO.op (O.build rfl rfl rfl (by rfl)) rfl rfl rfl ?_
  (refine AO.store (i := 0) rfl rfl rfl rfl rfl rfl (by rfl) (by rfl) (by rfl) (by (dsimp only [List.set, List.cons_append, List.nil_append, List.take, List.drop]; done)) (by (dsimp only [List.set, List.cons_append, List.nil_append, List.take, List.drop]; done)) ?_)
  refine AO.nil ?_
  refine AQ.thenN ?_
  refine AW.ret ?_
  refine AQ.thenR ?_
  refine FnQ.coe (AQ.retCell rfl rfl (by repeat (exact List.Mem.head _)) (by (dsimp only [List.set, List.cons_append, List.nil_append, List.take, List.drop]; done)) (by rfl) ⟨_, List.nil_sublist _, .nil⟩ ⟨rfl, rfl⟩) (Coe.agg (by (repeat (first | exact CoeL.nil | refine CoeL.cons Coe.rfl ?_ | refine CoeL.cons Coe.nil ?_)); done)) (⟨rfl, rfl⟩)
theorem print_fn : Sp Tryz.prog 36 [itA 1 2 [] 0 []] [] (Is (.tup [.val (.string ⟨#[45, 51]⟩), .val (.int .i64 0)])) := by
  refine Sp.enter Tryz.func36 rfl _ Tryz.ntmps36 rfl (fun w0 R0 => ?_)
  refine AW.seq ?_
  refine AW.region ?_
  refine AO.opB (O.box rfl rfl rfl rfl rfl) rfl rfl rfl ?_
  intro B1
  refine AO.op (O.assign rfl rfl) rfl rfl rfl ?_
  refine AO.op (O.assign rfl rfl) rfl rfl rfl ?_
  refine AO.nil ?_
  refine AQ.thenN ?_
  refine AW.seq ?_
  refine AW.seq ?_
  refine AW.region ?_
  (refine AO.op (O.loadK rfl rfl (by repeat (exact List.Mem.head _)) (by (dsimp only [List.set, List.cons_append, List.nil_append, List.take, List.drop]; done)) (by rfl)) rfl rfl rfl ?_)
  refine AO.op (O.call rfl Tryz.func77 rfl rfl rfl (validN_fn)) rfl rfl rfl ?_
  refine AO.op (O.not rfl rfl (by rfl)) rfl rfl rfl ?_
  refine AO.nil ?_
  refine AQ.thenN ?_
  refine AW.condF rfl ?_
  refine AW.skip ?_
  refine AQ.thenN ?_
  refine AW.seq ?_
  refine AW.region ?_
  (refine AO.op (O.loadK rfl rfl (by repeat (exact List.Mem.head _)) (by (dsimp only [List.set, List.cons_append, List.nil_append, List.take, List.drop]; done)) (by rfl)) rfl rfl rfl ?_)
  refine AO.op (O.call rfl Tryz.func78 rfl rfl rfl (putN_fn)) rfl rfl rfl ?_
  refine AO.op (O.convS rfl rfl (by rfl)) rfl rfl rfl ?_
  refine AO.op (O.assign rfl rfl) rfl rfl rfl ?_
  refine AO.op (O.assign rfl rfl) rfl rfl rfl ?_
  refine AO.nil ?_
  refine AQ.thenN ?_
  refine AW.ret ?_
  refine AQ.ret2 rfl rfl rfl ⟨_, List.nil_sublist _, .nil⟩ (⟨rfl, rfl⟩)
theorem parse_fn : SpK GN Tryz.prog 38 [.val (.string ⟨#[91, 49, 93]⟩)] [] (Is (.tup [itA 4 0 [] 1 (uintR 1), .val (.int .i64 0)])) := by
  have q1 : ((⟨#[]⟩ : ByteArray).toList != (⟨#[]⟩ : ByteArray).toList) = false := by decide +kernel
  have q2 : ((strOf [91, 49, 93]).toList != (⟨#[91, 49, 93]⟩ : ByteArray).toList) = false := by decide +kernel
  refine SpK.enter Tryz.func38 rfl _ Tryz.ntmps38 rfl (fun w0 R0 hK => ?_)
  refine AW.seq ?_
  refine AW.region ?_
  refine AO.opB (O.alloc rfl (by (dsimp only [zerosA, List.replicate, List.append, List.flatten, AV.cells, Value.cells, List.toList_toArray, List.map]; done)) (by rfl)) rfl rfl rfl ?_
  intro B1
  refine AO.op (O.assign rfl rfl) rfl rfl rfl ?_
  refine AO.nil ?_
  refine AQ.thenN ?_
  refine AW.seq ?_
  refine AW.region ?_
  refine AO.op (O.move rfl rfl) rfl rfl rfl ?_
  refine AO.op (O.build rfl rfl rfl (by rfl)) rfl rfl rfl ?_
  refine AO.opB (O.alloc rfl (by (dsimp only [zerosA, List.replicate, List.append, List.flatten, AV.cells, Value.cells, List.toList_toArray, List.map]; done)) (by rfl)) rfl rfl rfl ?_
  intro B2
  (refine AO.store (i := 0) rfl rfl rfl rfl rfl rfl (by rfl) (by rfl) (by rfl) (by (dsimp only [List.set, List.cons_append, List.nil_append, List.take, List.drop]; done)) (by (dsimp only [List.set, List.cons_append, List.nil_append, List.take, List.drop]; done)) ?_)
  refine AO.nil ?_
  refine AQ.thenN ?_
  refine AW.seq ?_
  refine AW.region ?_
  (refine AO.callK1n (i := 0) hK notFoot_nil rfl rfl Tryz.func80 rfl rfl rfl rfl rfl rfl (fun hB => item0_fn _ hB) (by (dsimp only [List.set, List.cons_append, List.nil_append, List.take, List.drop]; done)) ?_)
  refine AO.opB (O.alloc rfl (by (dsimp only [zerosA, List.replicate, List.append, List.flatten, AV.cells, Value.cells, List.toList_toArray, List.map]; done)) (by rfl)) rfl rfl rfl ?_
  intro B3
  (refine AO.store (i := 0) rfl rfl rfl rfl rfl rfl (by rfl) (by rfl) (by rfl) (by (dsimp only [List.set, List.cons_append, List.nil_append, List.take, List.drop]; done)) (by (dsimp only [List.set, List.cons_append, List.nil_append, List.take, List.drop]; done)) ?_)
  refine AO.nil ?_
  refine AQ.thenN ?_
  refine AW.seq ?_
  refine AW.seq ?_
  refine AW.region ?_
  refine AO.op (O.fieldAddr rfl rfl) rfl rfl rfl ?_
  refine AO.op (O.load rfl rfl (by repeat (first | exact List.Mem.head _ | refine List.Mem.tail _ ?_)) (by rfl)) rfl rfl rfl ?_
  refine AO.op (O.move rfl rfl) rfl rfl rfl ?_
  refine AO.op (O.fieldAddr rfl rfl) rfl rfl rfl ?_
  refine AO.op (O.load rfl rfl (by repeat (first | exact List.Mem.head _ | refine List.Mem.tail _ ?_)) (by rfl)) rfl rfl rfl ?_
  refine AO.op (O.neqS rfl rfl rfl (by assumption)) rfl rfl rfl ?_
  refine AO.op (O.pickF rfl rfl rfl) rfl rfl rfl ?_
  refine AO.op (O.move rfl rfl) rfl rfl rfl ?_
  (refine AO.op (O.loadK rfl rfl (by repeat (exact List.Mem.head _)) (by (dsimp only [List.set, List.cons_append, List.nil_append, List.take, List.drop]; done)) (by rfl)) rfl rfl rfl ?_)
  (refine AO.op (O.callC rfl Tryz.func77 rfl rfl rfl (validA_fn) (by (repeat (first | exact CoeL.nil | refine CoeL.cons Coe.rfl ?_ | refine CoeL.cons Coe.nil ?_ | refine CoeL.cons (Coe.agg ?_) ?_ | refine CoeL.cons (Coe.ro ?_) ?_)); done)) rfl rfl rfl ?_)
  refine AO.op (O.not rfl rfl (by rfl)) rfl rfl rfl ?_
  refine AO.op (O.pickF rfl rfl rfl) rfl rfl rfl ?_
  refine AO.nil ?_
  refine AQ.thenN ?_
  refine AW.condF rfl ?_
  refine AW.skip ?_
  refine AQ.thenN ?_
  refine AW.seq ?_
  refine AW.seq ?_
  refine AW.region ?_
  (refine AO.op (O.loadK rfl rfl (by repeat (exact List.Mem.head _)) (by (dsimp only [List.set, List.cons_append, List.nil_append, List.take, List.drop]; done)) (by rfl)) rfl rfl rfl ?_)
  (refine AO.op (O.callC rfl Tryz.func78 rfl rfl rfl (putA_fn) (by (repeat (first | exact CoeL.nil | refine CoeL.cons Coe.rfl ?_ | refine CoeL.cons Coe.nil ?_ | refine CoeL.cons (Coe.agg ?_) ?_ | refine CoeL.cons (Coe.ro ?_) ?_)); done)) rfl rfl rfl ?_)
  refine AO.op (O.convS rfl rfl (by rfl)) rfl rfl rfl ?_
  refine AO.op (O.move rfl rfl) rfl rfl rfl ?_
  refine AO.op (O.neqS rfl rfl rfl (by assumption)) rfl rfl rfl ?_
  refine AO.nil ?_
  refine AQ.thenN ?_
  refine AW.condF rfl ?_
  refine AW.skip ?_
  refine AQ.thenN ?_
  refine AW.seq ?_
  refine AW.region ?_
  (refine AO.op (O.loadK rfl rfl (by repeat (exact List.Mem.head _)) (by (dsimp only [List.set, List.cons_append, List.nil_append, List.take, List.drop]; done)) (by rfl)) rfl rfl rfl ?_)
  (refine AO.store (i := 2) rfl rfl rfl rfl rfl rfl (by rfl) (by rfl) (by rfl) (by (dsimp only [List.set, List.cons_append, List.nil_append, List.take, List.drop]; done)) (by (dsimp only [List.set, List.cons_append, List.nil_append, List.take, List.drop]; done)) ?_)
  refine AO.op (O.assign rfl rfl) rfl rfl rfl ?_
  refine AO.nil ?_
  refine AQ.thenN ?_
  refine AW.ret ?_
  refine FnQ.coe (AQ.retCT rfl rfl rfl (by repeat (first | exact List.Mem.head _ | refine List.Mem.tail _ ?_)) (by (dsimp only [List.set, List.cons_append, List.nil_append, List.take, List.drop]; done)) (by rfl) ⟨_, List.nil_sublist _, .nil⟩ ⟨rfl, rfl⟩) (Coe.tup (by (repeat (first | exact CoeL.nil | refine CoeL.cons Coe.rfl ?_ | refine CoeL.cons Coe.nil ?_ | refine CoeL.cons (Coe.agg ?_) ?_ | refine CoeL.cons (Coe.ro ?_) ?_)); done)) (⟨rfl, rfl⟩)
theorem awakeT_fn : SpK GN Tryz.prog 8 [] [] (Is (.val (.bool true))) := by
  have q1 : ((⟨#[45, 51]⟩ : ByteArray).toList == (⟨#[45, 51]⟩ : ByteArray).toList) = true := by decide +kernel
  refine SpK.enter Tryz.func8 rfl _ Tryz.ntmps8 rfl (fun w0 R0 hK => ?_)
  refine AW.seq ?_
  refine AW.region ?_
  refine AO.op (O.assign rfl rfl) rfl rfl rfl ?_
  refine AO.nil ?_
  refine AQ.thenN ?_
  refine AW.seq ?_
  refine AW.region ?_
  refine AO.op (O.call rfl Tryz.func37 rfl rfl rfl (intN_fn)) rfl rfl rfl ?_
  refine AO.op (O.call rfl Tryz.func36 rfl rfl rfl (print_fn)) rfl rfl rfl ?_
  refine AO.op (O.move rfl rfl) rfl rfl rfl ?_
  refine AO.op (O.extract rfl rfl rfl) rfl rfl rfl ?_
  refine AO.op (O.extract rfl rfl rfl) rfl rfl rfl ?_
  refine AO.op (O.assign rfl rfl) rfl rfl rfl ?_
  refine AO.op (O.assign rfl rfl) rfl rfl rfl ?_
  refine AO.nil ?_
  refine AQ.thenN ?_
  refine AW.seq ?_
  refine AW.region ?_
  refine AO.callK hK notFoot_nil rfl rfl Tryz.func38 rfl rfl rfl rfl rfl (parse_fn) ?_
  refine AO.op (O.move rfl rfl) rfl rfl rfl ?_
  refine AO.op (O.extract rfl rfl rfl) rfl rfl rfl ?_
  refine AO.op (O.extract rfl rfl rfl) rfl rfl rfl ?_
  refine AO.opB (O.alloc rfl (by (dsimp only [zerosA, List.replicate, List.append, List.flatten, AV.cells, Value.cells, List.toList_toArray, List.map]; done)) (by rfl)) rfl rfl rfl ?_
  intro B1
  (refine AO.store (i := 0) rfl rfl rfl rfl rfl rfl (by rfl) (by rfl) (by rfl) (by (dsimp only [List.set, List.cons_append, List.nil_append, List.take, List.drop]; done)) (by (dsimp only [List.set, List.cons_append, List.nil_append, List.take, List.drop]; done)) ?_)
  refine AO.op (O.assign rfl rfl) rfl rfl rfl ?_
  refine AO.nil ?_
  refine AQ.thenN ?_
  refine AW.seq ?_
  refine AW.region ?_
  refine AO.op (O.move rfl rfl) rfl rfl rfl ?_
  refine AO.op (O.eqlS rfl rfl rfl (by assumption)) rfl rfl rfl ?_
  refine AO.op (O.move rfl rfl) rfl rfl rfl ?_
  refine AO.op (O.move rfl rfl) rfl rfl rfl ?_
  refine AO.op (O.eql rfl rfl rfl (by exact beq_iff_eq.2 (by omega))) rfl rfl rfl ?_
  refine AO.op (O.pickT rfl rfl rfl) rfl rfl rfl ?_
  refine AO.op (O.move rfl rfl) rfl rfl rfl ?_
  refine AO.op (O.move rfl rfl) rfl rfl rfl ?_
  refine AO.op (O.eql rfl rfl rfl (by exact beq_iff_eq.2 (by omega))) rfl rfl rfl ?_
  refine AO.op (O.pickT rfl rfl rfl) rfl rfl rfl ?_
  refine AO.op (O.move rfl rfl) rfl rfl rfl ?_
  refine AO.op (O.fieldAddr rfl rfl) rfl rfl rfl ?_
  refine AO.op (O.load rfl rfl (by repeat (exact List.Mem.head _)) (by rfl)) rfl rfl rfl ?_
  refine AO.op (O.lenR rfl rfl) rfl rfl rfl ?_
  refine AO.op (O.eql rfl rfl rfl (by exact beq_iff_eq.2 (by omega))) rfl rfl rfl ?_
  refine AO.op (O.pickT rfl rfl rfl) rfl rfl rfl ?_
  refine AO.op (O.assign rfl rfl) rfl rfl rfl ?_
  refine AO.nil ?_
  refine AQ.thenN ?_
  refine AW.ret ?_
  refine AQ.ret1 rfl rfl ⟨_, List.nil_sublist _, .nil⟩ (⟨rfl, rfl⟩)
end Go.Proofs.YtoonnnifelnaiaaGreatDoor.By

namespace Go.Proofs.YtoonnnifelnaiaaGreatDoor.Dk
open Go.RowKit L A
set_option linter.unusedVariables false
set_option maxRecDepth 20000
set_option linter.unusedSimpArgs false
attribute [local irreducible] AW AQ AO

theorem left_fn (b : Nat) (l : List Int) (k : Nat) :
    Sp Tryz.prog 12 [ptr b] [deck b l k] (IsM (.val (.bool (decide (k < l.length)))) (deck b l k)) := by
  refine Sp.enter Tryz.func12 rfl _ Tryz.ntmps12 rfl (fun w0 R0 => ?_)
  refine AW.seq ?_
  refine AW.region ?_
  refine AO.op (O.assign rfl rfl) rfl rfl rfl ?_
  refine AO.nil ?_
  refine AQ.thenN ?_
  refine AW.seq ?_
  refine AW.regionD 11 (by kernel_rfl) (by kernel_rfl) ?_
  simp only [List.take_succ_cons, List.take_zero, List.drop_succ_cons, List.drop_zero]
  refine FA.op (O.move rfl rfl) rfl rfl rfl rfl ?_
  first | (refine FA.op (O.nilCheck rfl rfl) rfl rfl rfl rfl ?_) | (refine FA.op (O.nilCheckR rfl rfl) rfl rfl rfl rfl ?_)
  first | (refine FA.op (O.fieldAddrR rfl rfl) rfl rfl rfl rfl ?_) | (refine FA.op (O.fieldAddr rfl rfl) rfl rfl rfl rfl ?_)
  first | (refine FA.op (O.loadR rfl rfl (by first | rfl | assumption)) rfl rfl rfl rfl ?_) | (refine FA.op (O.load rfl rfl (by repeat (first | exact List.Mem.head _ | refine List.Mem.tail _ ?_)) (by first | rfl | assumption)) rfl rfl rfl rfl ?_)
  refine FA.op (O.move rfl rfl) rfl rfl rfl rfl ?_
  first | (refine FA.op (O.nilCheck rfl rfl) rfl rfl rfl rfl ?_) | (refine FA.op (O.nilCheckR rfl rfl) rfl rfl rfl rfl ?_)
  first | (refine FA.op (O.fieldAddrR rfl rfl) rfl rfl rfl rfl ?_) | (refine FA.op (O.fieldAddr rfl rfl) rfl rfl rfl rfl ?_)
  first | (refine FA.op (O.loadR rfl rfl (by first | rfl | assumption)) rfl rfl rfl rfl ?_) | (refine FA.op (O.load rfl rfl (by repeat (first | exact List.Mem.head _ | refine List.Mem.tail _ ?_)) (by first | rfl | assumption)) rfl rfl rfl rfl ?_)
  first | (refine FA.op (O.lenR rfl rfl) rfl rfl rfl rfl ?_) | (refine FA.op (O.lenV rfl rfl) rfl rfl rfl rfl ?_) | (refine FA.op (O.lenRow rfl rfl (by repeat (first | exact List.Mem.head _ | refine List.Mem.tail _ ?_))) rfl rfl rfl rfl ?_) | (refine FA.op (O.lenS rfl rfl) rfl rfl rfl rfl ?_)
  refine FA.op (O.lss rfl rfl rfl (by first | exact bTrue (by omega) | exact bFalse (by omega) | assumption | rfl)) rfl rfl rfl rfl ?_
  refine FA.op (O.assign rfl rfl) rfl rfl rfl rfl ?_
  refine FA.nil ?_
  simp only [chosen, List.nil_append, List.cons_append, List.append_nil]
  refine AO.nil ?_
  refine AQ.thenN ?_
  refine AW.ret ?_
  have e1 : decide ((k : Int) < (l.length : Int)) = decide (k < l.length) := by simp
  refine AQ.ret1 rfl rfl ⟨_, by repeat (first | exact List.Sublist.slnil | refine List.Sublist.cons_cons _ ?_ | refine List.Sublist.cons _ ?_), List.Perm.refl _⟩ (⟨congrArg (fun z => AV.val (.bool z)) e1, rfl⟩)
end Go.Proofs.YtoonnnifelnaiaaGreatDoor.Dk

namespace Go.Proofs.YtoonnnifelnaiaaGreatDoor.By
open Go.RowKit L A Dk
set_option linter.unusedVariables false
set_option maxRecDepth 20000
set_option linter.unusedSimpArgs false
attribute [local irreducible] AW AQ AO
theorem adv_in {l : List Int} {k : Nat} (h : k < l.length) : adv l k = k + 1 := if_pos h
theorem adv_ge (l : List Int) (k : Nat) : k ≤ adv l k := by unfold adv; split <;> omega
theorem fewT_fn (l : List Int) : Sp Tryz.prog 7 [roI l] [] (Is (.val (.bool (decide ((l.length : Int) ≤ 300))))) := by
  refine Sp.enter Tryz.func7 rfl _ Tryz.ntmps7 rfl (fun w0 R0 => ?_)
  refine AW.seq ?_
  refine AW.region ?_
  refine AO.op (O.assign rfl rfl) rfl rfl rfl ?_
  refine AO.nil ?_
  refine AQ.thenN ?_
  refine AW.seq ?_
  refine AW.region ?_
  refine AO.op (O.move rfl rfl) rfl rfl rfl ?_
  first | (refine AO.op (O.lenR rfl rfl) rfl rfl rfl ?_) | (refine AO.op (O.lenV rfl rfl) rfl rfl rfl ?_) | (refine AO.op (O.lenRow rfl rfl (by repeat (first | exact List.Mem.head _ | refine List.Mem.tail _ ?_))) rfl rfl rfl ?_) | (refine AO.op (O.lenS rfl rfl) rfl rfl rfl ?_)
  refine AO.op (O.leq rfl rfl rfl (by first | exact bTrue (by omega) | exact bFalse (by omega) | assumption | rfl)) rfl rfl rfl ?_
  refine AO.op (O.assign rfl rfl) rfl rfl rfl ?_
  refine AO.nil ?_
  refine AQ.thenN ?_
  refine AW.ret ?_
  refine AQ.ret1 rfl rfl ⟨_, List.nil_sublist _, .nil⟩ (⟨rfl, rfl⟩)
end Go.Proofs.YtoonnnifelnaiaaGreatDoor.By

namespace Go.Proofs.YtoonnnifelnaiaaGreatDoor.By
open Go.RowKit L A
set_option linter.unusedVariables false
set_option maxRecDepth 20000
set_option linter.unusedSimpArgs false
attribute [local irreducible] AW AQ AO
end Go.Proofs.YtoonnnifelnaiaaGreatDoor.By

namespace Go.Proofs.YtoonnnifelnaiaaGreatDoor.A
open Go.RowKit L
set_option linter.unusedVariables false
set_option maxRecDepth 20000
set_option linter.unusedSimpArgs false

section
variable {P : Program} {ops : Array Oper} {N : Nat}
def alAt (als : List Al) (i : Nat) : Option Al := als.find? fun al => Nat.beq al.i i
def isAl (als : List Al) (i : Nat) : Bool := (alAt als i).isSome
theorem alAt_mem {als : List Al} (hn : (als.map Al.i).Nodup) {al : Al} (h : al ∈ als) : alAt als al.i = some al := by
  induction als with
  | nil => cases h
  | cons a r ih =>
    rw [List.map_cons, List.nodup_cons] at hn
    unfold alAt
    rw [List.find?_cons]
    rcases List.mem_cons.1 h with rfl | h
    · simp
    · have hne : Nat.beq a.i al.i = false := by
        cases hb : Nat.beq a.i al.i with
        | false => rfl
        | true => exact absurd (List.mem_map.2 ⟨al, h, (Nat.eq_of_beq_eq_true hb).symm⟩) hn.1
      rw [hne]; exact ih hn.2 h
def upd (ea : Nat → Option Nat) (i : Nat) (v : Option Nat) : Nat → Option Nat := fun k => if k = i then v else ea k
theorem upd_same (ea : Nat → Option Nat) (i : Nat) (v : Option Nat) : upd ea i v i = v := if_pos rfl
theorem upd_other (ea : Nat → Option Nat) {i k : Nat} (v : Option Nat) (h : k ≠ i) : upd ea i v k = ea k := if_neg h
def early (als : List Al) (ea : Nat → Option Nat) : List HE := als.flatMap fun al => al.hs (ea al.i)
theorem early_congr {als : List Al} {ea ea' : Nat → Option Nat} (h : ∀ al ∈ als, ea al.i = ea' al.i) : early als ea = early als ea' := by
  induction als with
  | nil => rfl
  | cons a r ih =>
    unfold early at ih ⊢
    rw [List.flatMap_cons, List.flatMap_cons, h a (List.mem_cons_self ..), ih fun al hal => h al (List.mem_cons_of_mem _ hal)]
theorem early_set {als : List Al} (hn : (als.map Al.i).Nodup) {al : Al} (hm : al ∈ als) {ea : Nat → Option Nat} (b : Nat) (h : ea al.i = none) : (early als (upd ea al.i (some b))).Perm (al.he b :: early als ea) := by
  induction als with
  | nil => cases hm
  | cons a r ih =>
    rw [List.map_cons, List.nodup_cons] at hn
    rcases List.mem_cons.1 hm with rfl | hm
    · have e : early r (upd ea al.i (some b)) = early r ea := early_congr fun x hx => upd_other _ _ fun e => hn.1 (List.mem_map.2 ⟨x, hx, e⟩)
      show (al.hs (upd ea al.i (some b) al.i) ++ early r (upd ea al.i (some b))).Perm (al.he b :: (al.hs (ea al.i) ++ early r ea))
      rw [upd_same, h, e]; exact .refl _
    · have hne : a.i ≠ al.i := fun e => hn.1 (List.mem_map.2 ⟨al, hm, e.symm⟩)
      show (a.hs (upd ea al.i (some b) a.i) ++ early r (upd ea al.i (some b))).Perm (al.he b :: (a.hs (ea a.i) ++ early r ea))
      rw [upd_other _ _ hne]
      exact ((ih hn.2 hm).append_left _).trans List.perm_middle
theorem early_clear {als : List Al} (hn : (als.map Al.i).Nodup) {al : Al} (hm : al ∈ als) {ea : Nat → Option Nat} {b : Nat} (h : ea al.i = some b) : (early als ea).Perm (al.he b :: early als (upd ea al.i none)) := by
  have e : ea = upd (upd ea al.i none) al.i (some b) := by
    funext k
    by_cases hk : k = al.i
    · subst hk; rw [upd_same]; exact h
    · rw [upd_other _ _ hk, upd_other _ _ hk]
  have := early_set hn hm (ea := upd ea al.i none) b (upd_same _ _ _)
  rwa [← e] at this
def AB (P : Program) (N : Nat) (ops : Array Oper) (als : List Al) (Hs : List HE) (K : Env → List HE → Prop) : List (Nat × Bool) → Env → List HE → Prop
  | [], E, H => K E H
  | (i, true) :: r, E, H => match alAt als i with
    | some al => ∀ b, AB P N ops als Hs K r ((al.d, .val (.pointer (some ⟨b, 0, none⟩))) :: E) (al.he b :: H)
    | none => ∃ o, ops[i]? = some o ∧ ∀ w0 R0, AO ⟨w0, footOf H, R0, N⟩ P ops (QS ⟨w0, footOf H, R0, N⟩ o.dst (fun v H' => AB P N ops als Hs K r (putE o.dst v E) H')) [o] (rst E (o.looksAt ops)) H
  | (i, false) :: r, E, H => ∃ o d v, ops[i]? = some o ∧ o.dst = some d ∧ d < N ∧ OpF P N ops o (rst E (o.looksAt ops)) Hs (Is v) ∧ AB P N ops als Hs K r ((d, v) :: E) H

/-- One operation ahead of another. -/
def ordPairB (ops : Array Oper) (ia : Nat → Bool) (an : List (List Nat)) (i : Nat) (b : Bool) (j : Nat) (c : Bool) : Bool :=
  match ops[i]?, ops[j]? with
  | some oi, some oj =>
    let waits := oj.after.any fun e => Region.binds .any e && e.on == i
    let anc := (an.getD j []).contains i
    (i != j) && (!b || anc || ia j) &&
    (match oj.dst with
      | some d => bif c && !ia j then (!((oi.looksAt ops).contains d || oi.dst == some d)) || anc else !(oi.looksAt ops).contains d && oi.dst != some d
      | none => c && !ia j) &&
    (match oi.dst with
      | some d => !(oj.looksAt ops).contains d || waits
      | none => true)
  | _, _ => false
def ordPairsB (ops : Array Oper) (ia : Nat → Bool) (an : List (List Nat)) : List (Nat × Bool) → Bool
  | [] => true
  | (i, b) :: r => (b || (match ops[i]? with | some o => (match o.dst with | some d => !(o.looksAt ops).contains d | none => false) | none => false)) && r.all (fun q => ordPairB ops ia an i b q.1 q.2) && ordPairsB ops ia an r
def ordOkB (ops : Array Oper) (ia : Nat → Bool) (ord : List (Nat × Bool)) : Bool :=
  ((List.range ops.size).all fun i => (ord.map Prod.fst).contains i) && (ord.all fun q => decide (q.1 < ops.size)) &&
  ((List.range ops.size).all fun i => (ops[i]?).all fun o => o.after.all fun e => !Region.binds .any e || decide (e.on < i)) && (ord.all fun q => !ia q.1 || q.2) && ordPairsB ops ia (ancs ops.toList []) ord

theorem ordPairsB_app {ia : Nat → Bool} {an : List (List Nat)} : ∀ {pre r : List (Nat × Bool)}, ordPairsB ops ia an (pre ++ r) = true → ordPairsB ops ia an r = true ∧ ∀ q ∈ pre, ∀ s ∈ r, ordPairB ops ia an q.1 q.2 s.1 s.2 = true
  | [], r, h => ⟨h, fun q hq => by cases hq⟩
  | (i, b) :: pre, r, h => by
    rw [List.cons_append, ordPairsB] at h
    simp only [Bool.and_eq_true, List.all_eq_true] at h
    obtain ⟨h1, h2⟩ := ordPairsB_app h.2
    refine ⟨h1, fun q hq s hs => ?_⟩
    rcases List.mem_cons.1 hq with rfl | hq
    · exact h.1.2 s (List.mem_append_right _ hs)
    · exact h2 q hq s hs

structure PairOkB (ops : Array Oper) (ia : Nat → Bool) (an : List (List Nat)) (i : Nat) (b : Bool) (oi : Oper) (j : Nat) (c : Bool) (oj : Oper) : Prop where
  ne : i ≠ j
  main : b = true → ia j = false → i ∈ an.getD j []
  flt : c = false ∨ ia j = true → ∃ d, oj.dst = some d ∧ d ∉ oi.looksAt ops ∧ oi.dst ≠ some d
  mn : c = true → ia j = false → ∀ d, oj.dst = some d → (d ∈ oi.looksAt ops ∨ oi.dst = some d) → i ∈ an.getD j []
  reads : ∀ d, oi.dst = some d → d ∈ oj.looksAt ops → ∃ e ∈ oj.after, Region.binds .any e = true ∧ e.on = i
theorem pairOkB {ia : Nat → Bool} {an : List (List Nat)} {i j : Nat} {b c : Bool} {oi oj : Oper} (h : ordPairB ops ia an i b j c = true) (hi : ops[i]? = some oi) (hj : ops[j]? = some oj) : PairOkB ops ia an i b oi j c oj := by
  unfold ordPairB at h
  rw [hi, hj] at h
  simp only [Bool.and_eq_true, bne_iff_ne, ne_eq] at h
  obtain ⟨⟨⟨h1, h2⟩, h3⟩, h4⟩ := h
  refine ⟨h1, fun hb hj => ?_, fun hc => ?_, fun hc hj d hd hm => ?_, fun d hd hm => ?_⟩
  · subst hb; simpa [hj] using h2
  · have hcj : (c && !ia j) = false := by rcases hc with hc | hc <;> simp [hc]
    cases hd : oj.dst with
    | none => rw [hd] at h3; simp only [hcj] at h3; cases h3
    | some d =>
      rw [hd] at h3
      simp only [hcj, cond_false] at h3
      simp at h3
      exact ⟨d, rfl, h3.1, h3.2⟩
  · subst hc
    have hcj : (true && !ia j) = true := by simp [hj]
    rw [hd] at h3
    simp only [hcj, cond_true] at h3
    simp at h3
    rcases h3 with h3 | h3
    · rcases hm with hm | hm
      · exact absurd hm h3.1
      · exact absurd hm h3.2
    · exact h3
  · rw [hd] at h4
    simp only [Bool.or_eq_true, Bool.not_eq_true', List.contains_eq_mem, decide_eq_false_iff_not] at h4
    rcases h4 with h4 | h4
    · exact absurd hm h4
    · obtain ⟨x, hx, hx2⟩ := any_mem h4
      simp only [Bool.and_eq_true, beq_iff_eq] at hx2
      exact ⟨x, hx, hx2.1, hx2.2⟩

/-- The state on the way. -/
structure NB (P : Program) (Γ : Cx) (ops : Array Oper) (als : List Al) (Hs : List HE) (K : Env → List HE → Prop) (ord : List (Nat × Bool)) (listed : Array Bool) (A : Act) (W : World) (pre ms : List (Nat × Bool)) (Pd : List Nat) (ea : Nat → Option Nat) (E : Env) (H : List HE) (R : Nat → Prop) : Prop where
  size : listed.size = ops.size
  closed : Closed ops listed
  part : ∀ i, i < ops.size → (listed.getD i false = false ↔ (i ∈ Pd ∨ i ∈ ms.map Prod.fst) ∧ ea i = none)
  ord : ord = pre ++ ms
  pdp : ∀ i ∈ Pd, (i, false) ∈ pre
  am : AB P Γ.N ops als Hs K ms E H
  pend : ∀ i ∈ Pd, ∃ o d v, ops[i]? = some o ∧ o.dst = some d ∧ d < Γ.N ∧ look E d = some v ∧ OpF P Γ.N ops o (rst E (o.looksAt ops)) Hs (Is v)
  rels : RelS Γ R (H ++ (early als ea ++ Hs)) W
  eal : ∀ i b, ea i = some b → ∃ al ∈ als, al.i = i ∧ (i, true) ∈ ms ∧ A.eval (.tmp al.d) = .pointer (some ⟨b, 0, none⟩)
  defers : A.defers = []
  tmps : A.tmps.size = Γ.N
  act : ∀ t v, look E t = some v → (∀ i ∈ Pd, ∀ o, ops[i]? = some o → o.dst ≠ some t) → (∀ al ∈ als, ea al.i ≠ none → t ≠ al.d) → RelV R W v (A.eval (.tmp t))

variable {Γ : Cx} {als : List Al} {Hs : List HE} {K : Env → List HE → Prop} {ord : List (Nat × Bool)}
def alsOk (P : Program) (N : Nat) (ops : Array Oper) (als : List Al) : Prop := (als.map Al.i).Nodup ∧ ∀ al ∈ als, al.ok P N ops

/-- What reads is pending as soon as it may run. -/
theorem NB.absorb {listed : Array Bool} {A : Act} {W : World} {R : Nat → Prop} (hok : ordPairsB ops (isAl als) (ancs ops.toList []) ord = true) (hals : alsOk P Γ.N ops als) : ∀ (ms pre : List (Nat × Bool)) (Pd : List Nat) (ea : Nat → Option Nat) (E : Env) (H : List HE), NB P Γ ops als Hs K ord listed A W pre ms Pd ea E H R →
    ∃ pre' ms' Pd' ea' E' H', NB P Γ ops als Hs K ord listed A W pre' ms' Pd' ea' E' H' R ∧ (ms' = [] ∨ ∃ m r, ms' = (m, true) :: r ∧ ea' m = none)
  | [], pre, Pd, ea, E, H, h => ⟨pre, [], Pd, ea, E, H, h, .inl rfl⟩
  | (m, true) :: r, pre, Pd, ea, E, H, h => by
    cases hea : ea m with
    | none => exact ⟨pre, _, Pd, ea, E, H, h, .inr ⟨m, r, rfl, hea⟩⟩
    | some b =>
      obtain ⟨al, halm, rfl, -, hpt⟩ := h.eal m b hea
      have hfa : alAt als al.i = some al := alAt_mem hals.1 halm
      have hisal : isAl als al.i = true := by unfold isAl; rw [hfa]; rfl
      obtain ⟨oa, ho, hd, hN, hg, hop⟩ := hals.2 al halm
      have ham := h.am
      rw [AB, hfa] at ham
      have hord := h.ord
      have hq := ordPairsB_app (pre := pre) (r := (al.i, true) :: r) (by rw [← hord]; exact hok)
      have hself : ∀ i ∈ Pd, i ≠ al.i := fun i hi e => by
        have := pairOkB (hq.2 _ (h.pdp i hi) (al.i, true) (List.mem_cons_self ..)) (by rw [e]; exact ho) ho
        exact this.ne e
      have hp : ∀ i ∈ Pd, ∀ oi, ops[i]? = some oi → al.d ∉ oi.looksAt ops ∧ oi.dst ≠ some al.d := fun i hi oi hoi => by
        have := pairOkB (hq.2 _ (h.pdp i hi) (al.i, true) (List.mem_cons_self ..)) hoi ho
        obtain ⟨d', h1, h2, h3⟩ := this.flt (.inr hisal)
        rw [hd] at h1
        cases h1
        exact ⟨h2, h3⟩
      have hnr : al.i ∉ r.map Prod.fst := fun hm => by
        obtain ⟨⟨j, c⟩, hq3, hji⟩ := List.mem_map.1 hm
        have h9 := (ordPairsB_app (pre := pre ++ [(al.i, true)]) (r := r) (by rw [List.append_assoc, List.singleton_append, ← hord]; exact hok)).2 (al.i, true) (by simp) _ hq3
        simp only at hji
        subst hji
        exact (pairOkB h9 ho ho).ne rfl
      refine NB.absorb hok hals r (pre ++ [(al.i, true)]) Pd (upd ea al.i none) ((al.d, .val (.pointer (some ⟨b, 0, none⟩))) :: E) (al.he b :: H) ⟨h.size, h.closed, fun i hi => ?_, by rw [hord]; simp, fun i hi => List.mem_append_left _ (h.pdp i hi), ham b, fun i hi => ?_, ?_, fun i b' hb' => ?_, h.defers, h.tmps, fun t x ht hpd hne => ?_⟩
      · rw [h.part i hi]
        simp only [List.map_cons, List.mem_cons]
        by_cases hia : i = al.i
        · subst hia
          rw [upd_same, hea]
          constructor
          · rintro ⟨_, h2⟩; cases h2
          · rintro ⟨h1 | h1, _⟩
            · exact absurd rfl (hself _ h1)
            · exact absurd h1 hnr
        · rw [upd_other _ _ hia]
          refine and_congr_left fun _ => ?_
          constructor
          · rintro (h1 | h1 | h1)
            · exact .inl h1
            · exact absurd h1 hia
            · exact .inr h1
          · rintro (h1 | h1)
            · exact .inl h1
            · exact .inr (.inr h1)
      · obtain ⟨oi, di, vi, h1, h2, h3, h4, h5⟩ := h.pend i hi
        obtain ⟨h6, h7⟩ := hp i hi oi h1
        refine ⟨oi, di, vi, h1, h2, h3, ?_, by rw [rst_skip h6]; exact h5⟩
        rw [look_skip (fun e => h7 (by rw [h2, e]))]; exact h4
      · refine h.rels.perm ?_
        have h1 := early_clear hals.1 halm hea
        show (al.he b :: (H ++ (early als (upd ea al.i none) ++ Hs))).Perm (H ++ (early als ea ++ Hs))
        refine (List.perm_middle (a := al.he b) (l₁ := H)).symm.trans ?_
        exact ((h1.symm.append_right Hs).append_left H)
      · by_cases hia : i = al.i
        · subst hia; rw [upd_same] at hb'; cases hb'
        · rw [upd_other _ _ hia] at hb'
          obtain ⟨al', h1, h2, h3, h4⟩ := h.eal i b' hb'
          refine ⟨al', h1, h2, ?_, h4⟩
          rcases List.mem_cons.1 h3 with h3 | h3
          · cases h3; exact absurd rfl hia
          · exact h3
      · by_cases hdt : al.d = t
        · subst hdt
          rw [look_here] at ht
          cases ht
          rw [hpt]; exact .val _
        · rw [look_skip hdt] at ht
          refine h.act t x ht hpd fun al' hal' hne' e => ?_
          by_cases hia : al'.i = al.i
          · have h1 := alAt_mem hals.1 hal'
            rw [hia, hfa] at h1
            cases h1
            exact hdt e.symm
          · exact hne al' hal' (by rw [upd_other _ _ hia]; exact hne') e
  | (j, false) :: r, pre, Pd, ea, E, H, h => by
    obtain ⟨o, d, v, ho, hd, hN, hop, ham⟩ := h.am
    have hord := h.ord
    have hq := ordPairsB_app (pre := pre) (r := (j, false) :: r) (by rw [← hord]; exact hok)
    have hself : d ∉ o.looksAt ops := by
      have := hq.1
      rw [ordPairsB] at this
      simp only [Bool.and_eq_true, ho, hd, Bool.false_or] at this
      simpa using this.1.1
    have hp : ∀ i ∈ Pd, ∀ oi, ops[i]? = some oi → d ∉ oi.looksAt ops ∧ oi.dst ≠ some d := fun i hi oi hoi => by
      have := pairOkB (hq.2 _ (h.pdp i hi) (j, false) (List.mem_cons_self ..)) hoi ho
      obtain ⟨d', h1, h2, h3⟩ := this.flt (.inl rfl)
      rw [hd] at h1
      cases h1
      exact ⟨h2, h3⟩
    refine NB.absorb hok hals r (pre ++ [(j, false)]) (j :: Pd) ea ((d, v) :: E) H ⟨h.size, h.closed, fun i hi => ?_, by rw [hord]; simp, fun i hi => ?_, ham, fun i hi => ?_, h.rels, fun i b hb => ?_, h.defers, h.tmps, fun t x ht hpd hea => ?_⟩
    · rw [h.part i hi]
      simp only [List.map_cons, List.mem_cons]
      refine and_congr_left fun _ => ?_
      constructor
      · rintro (h | h | h)
        · exact .inl (.inr h)
        · exact .inl (.inl h)
        · exact .inr h
      · rintro ((h | h) | h)
        · exact .inr (.inl h)
        · exact .inl h
        · exact .inr (.inr h)
    · rcases List.mem_cons.1 hi with rfl | hi
      · simp
      · exact List.mem_append_left _ (h.pdp i hi)
    · rcases List.mem_cons.1 hi with rfl | hi
      · exact ⟨o, d, v, ho, hd, hN, look_here, by rw [rst_skip hself]; exact hop⟩
      · obtain ⟨oi, di, vi, h1, h2, h3, h4, h5⟩ := h.pend i hi
        obtain ⟨h6, h7⟩ := hp i hi oi h1
        refine ⟨oi, di, vi, h1, h2, h3, ?_, by rw [rst_skip h6]; exact h5⟩
        rw [look_skip (fun e => h7 (by rw [h2, e]))]; exact h4
    · obtain ⟨al, h0, h9, h1, h2⟩ := h.eal i b hb
      refine ⟨al, h0, h9, ?_, h2⟩
      rcases List.mem_cons.1 h1 with h1 | h1
      · cases h1
      · exact h1
    · have hne : d ≠ t := fun e => hpd j (List.mem_cons_self ..) o ho (by rw [hd, e])
      rw [look_skip hne] at ht
      exact h.act t x ht (fun i hi => hpd i (List.mem_cons_of_mem _ hi)) hea

theorem NB.reads {listed : Array Bool} {A : Act} {W : World} {R : Nat → Prop} {pre ms : List (Nat × Bool)} {Pd : List Nat} {ea : Nat → Option Nat} {E : Env} {H : List HE} (hok : ordPairsB ops (isAl als) (ancs ops.toList []) ord = true) (hals : alsOk P Γ.N ops als) (h : NB P Γ ops als Hs K ord listed A W pre ms Pd ea E H R)
    {i : Nat} {b : Bool} {o : Oper} (ho : ops[i]? = some o) (hdeps : ∀ e ∈ o.after, Region.binds .any e = true → listed.getD e.on false = true) (hi : (i, b) ∈ pre ∧ i ∈ Pd ∧ b = false ∨ ∃ r, ms = (i, b) :: r ∧ isAl als i = false) : RelA Γ.N R W (rst E (o.looksAt ops)) A := by
  refine ⟨h.defers, h.tmps, fun t v ht => ?_⟩
  obtain ⟨htl, ht⟩ := look_rst ht
  have hnal : ∀ al ∈ als, ea al.i ≠ none → t ≠ al.d := fun al halm hea e => by
    obtain ⟨oa, hoa, hda, -⟩ := hals.2 al halm
    have hisal : isAl als al.i = true := by unfold isAl; rw [alAt_mem hals.1 halm]; rfl
    obtain ⟨b', hb'⟩ := Option.ne_none_iff_exists'.1 hea
    obtain ⟨_, -, -, hmem, -⟩ := h.eal _ b' hb'
    have key : ordPairB ops (isAl als) (ancs ops.toList []) i b al.i true = true → False := fun hp => by
      obtain ⟨d', h1, h2, -⟩ := (pairOkB hp ho hoa).flt (.inr hisal)
      rw [hda] at h1; cases h1
      exact h2 (e ▸ htl)
    rcases hi with ⟨hip, -, -⟩ | ⟨r, hms, hne⟩
    · exact key ((ordPairsB_app (pre := pre) (r := ms) (by rw [← h.ord]; exact hok)).2 _ hip _ hmem)
    · rw [hms] at hmem
      rcases List.mem_cons.1 hmem with h9 | h9
      · cases h9; rw [hisal] at hne; cases hne
      · exact key ((ordPairsB_app (pre := pre ++ [(i, b)]) (r := r) (by have := h.ord; rw [List.append_assoc, List.singleton_append, ← hms, ← this]; exact hok)).2 (i, b) (by simp) _ h9)
  refine h.act t v ht (fun k hk ok hok' hdk => ?_) hnal
  have hkp := h.pdp k hk
  have hkn : ea k = none := Classical.byContradiction fun hne => by
    obtain ⟨b', hb'⟩ := Option.ne_none_iff_exists'.1 hne
    obtain ⟨al, halm, rfl, hmem, -⟩ := h.eal _ b' hb'
    obtain ⟨oa, hoa, hda, -⟩ := hals.2 al halm
    exact (pairOkB ((ordPairsB_app (pre := pre) (r := ms) (by rw [← h.ord]; exact hok)).2 _ hkp _ hmem) hok' hoa).ne rfl
  have hkf : listed.getD k false = false := (h.part k (Array.getElem?_eq_some_iff.1 hok').1).2 ⟨.inl hk, hkn⟩
  have direct : ordPairB ops (isAl als) (ancs ops.toList []) k false i b = true → False := fun hp => by
    obtain ⟨e, he, hb, hon⟩ := (pairOkB hp hok' ho).reads t hdk htl
    have := hdeps e he hb
    rw [hon, hkf] at this; cases this
  rcases hi with ⟨hip, hiP, rfl⟩ | ⟨r, hms, -⟩
  · -- both ahead
    obtain ⟨p1, p2, hp12⟩ := List.append_of_mem hkp
    have hord := h.ord
    rw [hp12, List.append_assoc] at hord
    rw [hp12] at hip
    rcases List.mem_append.1 hip with hip | hip
    · -- i ahead of k
      have hq := ordPairsB_app (pre := p1) (by rw [← hord]; exact hok)
      have := pairOkB (hq.2 _ hip (k, false) (List.mem_cons_self ..)) ho hok'
      obtain ⟨d', h1, h2, -⟩ := this.flt (.inl rfl)
      rw [hdk] at h1; cases h1
      exact h2 htl
    · rcases List.mem_cons.1 hip with he | hip
      · cases he
        -- itself
        have hq := (ordPairsB_app (pre := p1) (by rw [← hord]; exact hok)).1
        rw [List.cons_append, ordPairsB] at hq
        simp only [Bool.and_eq_true] at hq
        obtain rfl : o = ok := by rw [ho] at hok'; exact Option.some.inj hok'
        have := hq.1.1
        rw [ho] at this
        simp only [hdk, Bool.false_or] at this
        simp at this
        exact this htl
      · rw [show p1 ++ ((k, false) :: p2 ++ ms) = (p1 ++ [(k, false)]) ++ (p2 ++ ms) by simp] at hord
        have hq := ordPairsB_app (pre := p1 ++ [(k, false)]) (by rw [← hord]; exact hok)
        exact direct (hq.2 (k, false) (by simp) (i, false) (List.mem_append_left _ hip))
  · have hq := ordPairsB_app (pre := pre) (r := ms) (by rw [← h.ord]; exact hok)
    exact direct (hq.2 _ hkp (i, b) (by rw [hms]; exact List.mem_cons_self ..))

/-! One operation. -/
theorem AB.op {i d : Nat} {r : List (Nat × Bool)} {E : Env} {H : List HE} {o : Oper} {v : AV} (ho : ops[i]? = some o) (h : OpW P N o (rst E (o.looksAt ops)) Hs (Is v)) (hw : wantedIs ops (rst E (o.looksAt ops)) o = some true) (hd : o.dst = some d) (hN : Nat.ble (d + 1) N = true) (k : AB P N ops als Hs K r ((d, v) :: E) H) :
    AB P N ops als Hs K ((i, false) :: r) E H := ⟨o, d, v, ho, hd, Nat.le_of_ble_eq_true hN, .run hw h, k⟩
theorem AB.opG {i d : Nat} {r : List (Nat × Bool)} {E : Env} {H : List HE} {o : Oper} {c : Bool} {v : AV} (ho : ops[i]? = some o) (hw : guardIs ops (rst E (o.looksAt ops)) o = some c) (hd : o.dst = some d) (hN : Nat.ble (d + 1) N = true) (h : c = true → OpW P N o (rst E (o.looksAt ops)) Hs (Is v)) (k : AB P N ops als Hs K r ((d, .opt c v) :: E) H) :
    AB P N ops als Hs K ((i, false) :: r) E H := ⟨o, d, _, ho, hd, Nat.le_of_ble_eq_true hN, .opt hw h, k⟩
theorem AB.no {i d : Nat} {r : List (Nat × Bool)} {E : Env} {H : List HE} {o : Oper} (ho : ops[i]? = some o) (hw : wantedIs ops (rst E (o.looksAt ops)) o = some false) (hd : o.dst = some d) (hN : Nat.ble (d + 1) N = true) (k : AB P N ops als Hs K r ((d, .val undef) :: E) H) :
    AB P N ops als Hs K ((i, false) :: r) E H := ⟨o, d, _, ho, hd, Nat.le_of_ble_eq_true hN, .no hw, k⟩
theorem AB.main {i : Nat} {r : List (Nat × Bool)} {E : Env} {H : List HE} (o : Oper) (ho : ops[i]? = some o) (hne : isAl als i = false) (h : ∀ w0 R0, AO ⟨w0, footOf H, R0, N⟩ P ops (QS ⟨w0, footOf H, R0, N⟩ o.dst (fun v H' => AB P N ops als Hs K r (putE o.dst v E) H')) [o] (rst E (o.looksAt ops)) H) :
    AB P N ops als Hs K ((i, true) :: r) E H := by
  have : alAt als i = none := by unfold isAl at hne; exact Option.not_isSome_iff_eq_none.1 (by rw [hne]; simp)
  rw [AB, this]; exact ⟨o, ho, h⟩
theorem AB.box {i : Nat} {r : List (Nat × Bool)} {E : Env} {H : List HE} (al : Al) (he : alAt als i = some al) (k : ∀ b, AB P N ops als Hs K r ((al.d, .val (.pointer (some ⟨b, 0, none⟩))) :: E) (al.he b :: H)) : AB P N ops als Hs K ((i, true) :: r) E H := by rw [AB, he]; exact k
theorem alsOk.nil {P : Program} {N : Nat} {ops : Array Oper} : alsOk P N ops [] := ⟨.nil, fun _ h => by cases h⟩
theorem alsOk.cons {P : Program} {N : Nat} {ops : Array Oper} {al : Al} {als : List Al} (h : al.ok P N ops) (hn : (als.map Al.i).contains al.i = false) (hs : alsOk P N ops als) : alsOk P N ops (al :: als) := by
  refine ⟨?_, fun x hx => ?_⟩
  · rw [List.map_cons, List.nodup_cons]
    exact ⟨fun hm => (by rw [List.contains_iff_mem.2 hm] at hn; cases hn), hs.1⟩
  · rcases List.mem_cons.1 hx with e | hx
    · rw [e]; exact h
    · exact hs.2 x hx
theorem AB.nil {E : Env} {H : List HE} (h : K E H) : AB P N ops als Hs K [] E H := h
end
end Go.Proofs.YtoonnnifelnaiaaGreatDoor.A

namespace Go.Proofs.YtoonnnifelnaiaaGreatDoor.By
open Go.RowKit L A Dk
set_option linter.unusedVariables false
set_option maxRecDepth 20000
set_option linter.unusedSimpArgs false
attribute [local irreducible] AW AQ AO
/-- What the network holds. -/
def NetO (st : Int) (T : Nat → Int) (net : List Pk) (s : Nat) : Prop := ∀ q ∈ net, ∃ j : Nat, 1 ≤ j ∧ j ≤ s ∧ q.m = msgO st j ∧ q.at_ = T j
/-- What the client keeps. -/
def KpO (st : Int) (T : Nat → Int) (s : Nat) (now kp sq at_ : Int) : Prop := (kp = -1 ∧ sq = 0 ∧ at_ = 0) ∨ ∃ j : Nat, 1 ≤ j ∧ j ≤ s ∧ kp = (j : Int) ∧ sq = seqOf st j ∧ T j ≤ at_ ∧ 0 ≤ at_ ∧ at_ ≤ now
theorem KpO.bd {st : Int} {T : Nat → Int} {s : Nat} {now kp sq at_ : Int} (h : KpO st T s now kp sq at_) (hn : 0 ≤ now) : 0 ≤ sq ∧ sq < 16777216 ∧ 0 ≤ at_ ∧ at_ ≤ now ∧ -1 ≤ kp ∧ kp ≤ (s : Int) := by
  rcases h with ⟨rfl, rfl, rfl⟩ | ⟨j, h1, h2, rfl, rfl, h3, h4, h5⟩
  · omega
  · have := seqOf_in st j
    omega
theorem KpO.later {st : Int} {T : Nat → Int} {s : Nat} {now now2 kp sq at_ : Int} (h : KpO st T s now kp sq at_) (hn : now ≤ now2) : KpO st T s now2 kp sq at_ := by
  rcases h with h | ⟨j, h1, h2, h3, h4, h5, h6, h7⟩
  · exact .inl h
  · exact .inr ⟨j, h1, h2, h3, h4, h5, h6, by omega⟩
/-- The next state is sent at now. -/
def nextT (T : Nat → Int) (s : Nat) (now : Int) : Nat → Int := fun i => if i ≤ s then T i else now
theorem nextT_le {T : Nat → Int} {s i : Nat} {now : Int} (h : i ≤ s) : nextT T s now i = T i := if_pos h
theorem nextT_gt {T : Nat → Int} {s i : Nat} {now : Int} (h : s < i) : nextT T s now i = now := if_neg (by omega)
theorem nextT_mono {T : Nat → Int} {s : Nat} {now : Int} (hT : ∀ i j, i ≤ j → T i ≤ T j) (hn : ∀ j, 0 ≤ T j ∧ T j ≤ now) : ∀ i j, i ≤ j → nextT T s now i ≤ nextT T s now j := fun i j h => by
  by_cases hj : j ≤ s
  · have hi : i ≤ s := Nat.le_trans h hj
    rw [nextT_le hj, nextT_le hi]; exact hT i j h
  · have hj' : s < j := Nat.lt_of_not_le hj
    rw [nextT_gt hj']
    by_cases hi : i ≤ s
    · rw [nextT_le hi]; exact (hn i).2
    · rw [nextT_gt (Nat.lt_of_not_le hi)]; exact Int.le_refl _
theorem nextT_in {T : Nat → Int} {s : Nat} {now : Int} (hn : ∀ j, 0 ≤ T j ∧ T j ≤ now) (h0 : 0 ≤ now) : ∀ j, 0 ≤ nextT T s now j ∧ nextT T s now j ≤ now := fun j => by
  by_cases hj : j ≤ s
  · rw [nextT_le hj]; exact hn j
  · rw [nextT_gt (Nat.lt_of_not_le hj)]; exact ⟨h0, Int.le_refl _⟩
theorem NetO.next {st : Int} {T : Nat → Int} {net : List Pk} {s : Nat} {now : Int} (h : NetO st T net s) : NetO st (nextT T s now) (net ++ [(⟨msgO st (s + 1), now⟩ : Pk)]) (s + 1) := fun q hq => by
  rcases List.mem_append.1 hq with hq | hq
  · obtain ⟨j, h1, h2, h3, h4⟩ := h q hq
    exact ⟨j, h1, by omega, h3, by rw [nextT_le h2]; exact h4⟩
  · obtain rfl := List.mem_singleton.1 hq
    exact ⟨s + 1, by omega, Nat.le_refl _, rfl, (nextT_gt (by omega)).symm⟩
theorem KpO.next {st : Int} {T : Nat → Int} {s : Nat} {now now2 kp sq at_ : Int} (h : KpO st T s now kp sq at_) : KpO st (nextT T s now2) (s + 1) now kp sq at_ := by
  rcases h with h | ⟨j, h1, h2, h3, h4, h5, h6, h7⟩
  · exact .inl h
  · exact .inr ⟨j, h1, by omega, h3, h4, by rw [nextT_le h2]; exact h5, h6, h7⟩
set_option maxRecDepth 100000 in
set_option maxHeartbeats 8000000 in
theorem topObserve_fn (l : List Int) (x : Int) (hl : l.length ≤ maxLen) : SpK GN Tryz.prog 3 [roI l, .val (.int .i64 x)] [] (Is (.val (.bool true))) := by
  refine SpK.enter Tryz.func3 rfl _ Tryz.ntmps3 rfl (fun w0 R0 hK => ?_)
  refine AW.seq ?_
  refine AW.region ?_
  refine AO.op (O.assign rfl rfl) rfl rfl rfl ?_
  refine AO.nil ?_
  refine AQ.thenN ?_
  refine AW.seq ?_
  refine AW.seq ?_
  refine AW.region ?_
  refine AO.op (O.move rfl rfl) rfl rfl rfl ?_
  refine AO.op (O.call rfl Tryz.func7 rfl rfl rfl (fewT_fn _)) rfl rfl rfl ?_
  refine AO.op (O.not rfl rfl (by rfl)) rfl rfl rfl ?_
  refine AO.nil ?_
  refine AQ.thenN ?_
  refine AW.split rfl (fun hfew => ?_) (fun hfew => ?_) <;> (try simp only [decide_eq_true_eq, decide_eq_false_iff_not, beq_iff_eq, beq_eq_false_iff_ne, bne_iff_ne, bne_eq_false_iff_eq, Bool.not_eq_true', Bool.not_eq_false', Bool.not_eq_true, Bool.not_eq_false, ne_eq, Int.not_lt, Int.not_le, Bool.and_eq_true, Bool.or_eq_true, Bool.or_eq_false_iff, Bool.and_eq_false_imp, strOf_toList, Decidable.not_not] at hfew)
  · skip
    refine AW.seq ?_
    refine AW.region ?_
    refine AO.callK hK notFoot_nil rfl rfl Tryz.func8 rfl rfl rfl rfl rfl (awakeT_fn) ?_
    refine AO.op (O.assign rfl rfl) rfl rfl rfl ?_
    refine AO.nil ?_
    refine AQ.thenN ?_
    refine AW.ret ?_
    refine AQ.thenR ?_
    refine AQ.ret1 rfl rfl ⟨_, List.nil_sublist _, .nil⟩ (⟨rfl, rfl⟩)
  · skip
    refine AW.skip ?_
    refine AQ.thenN ?_
    refine AW.seq ?_
    refine AW.region ?_
    refine AO.op (O.move rfl rfl) rfl rfl rfl ?_
    refine AO.opB (O.call rfl Tryz.func9 rfl rfl rfl (new_fn _)) rfl rfl rfl ?_
    intro B1
    refine AO.op (O.assign rfl rfl) rfl rfl rfl ?_
    refine AO.nil ?_
    refine AQ.thenN ?_
    refine AW.seq ?_
    refine AW.region ?_
    refine AO.opB (O.buildSlice rfl rfl rfl (by rfl) (by rfl) (by rfl) (by rfl)) rfl rfl rfl ?_
    intro B2
    refine AO.g ?_
    (refine G.freezeSl 0 29 rfl rfl ⟨Nat.le_refl _, by unfold maxLen; omega⟩ ?_)
    refine G.unfull 29 rfl ?_
    refine AO.u ?_
    dsimp only [List.eraseIdx]
    refine AO.opB (O.buildSlice rfl rfl rfl (by rfl) (by rfl) (by rfl) (by rfl)) rfl rfl rfl ?_
    intro B3
    refine AO.g ?_
    (refine G.freezeSl 0 30 rfl rfl ⟨Nat.le_refl _, by unfold maxLen; omega⟩ ?_)
    refine G.unfull 30 rfl ?_
    refine AO.u ?_
    dsimp only [List.eraseIdx]
    (refine AO.opN (O.callC rfl Tryz.func10 rfl rfl rfl (reg0_fn) (by (repeat (first | exact CoeL.nil | refine CoeL.cons Coe.rfl ?_ | refine CoeL.cons Coe.nil ?_)); done)) rfl rfl rfl ?_)
    rintro _ _ ⟨V4, hV4, rfl, rfl⟩
    simp only [List.cons_append, List.nil_append]
    refine AO.op (O.move rfl rfl) rfl rfl rfl ?_
    refine AO.op (O.extract rfl rfl rfl) rfl rfl rfl ?_
    refine AO.op (O.extract rfl rfl rfl) rfl rfl rfl ?_
    refine AO.op (O.assign rfl rfl) rfl rfl rfl ?_
    refine AO.op (O.assign rfl rfl) rfl rfl rfl ?_
    refine AO.nil ?_
    refine AQ.thenN ?_
    refine AW.seq ?_
    refine AW.seq ?_
    refine AW.region ?_
    refine AO.op (O.move rfl rfl) rfl rfl rfl ?_
    refine AO.op (O.neq rfl rfl rfl (by exact bne_eq_false_iff_eq.2 (by omega))) rfl rfl rfl ?_
    refine AO.op (O.move rfl rfl) rfl rfl rfl ?_
    refine AO.op (O.move rfl rfl) rfl rfl rfl ?_
    refine AO.op (O.lenRow rfl rfl (by repeat (exact List.Mem.head _))) rfl rfl rfl ?_
    refine AO.op (O.neq rfl rfl rfl (by exact bne_eq_false_iff_eq.2 (by omega))) rfl rfl rfl ?_
    refine AO.op (O.pickF rfl rfl rfl) rfl rfl rfl ?_
    refine AO.nil ?_
    refine AQ.thenN ?_
    refine AW.split rfl (fun h40 => ?_) (fun h40 => ?_) <;> (try simp only [decide_eq_true_eq, decide_eq_false_iff_not, beq_iff_eq, beq_eq_false_iff_ne, bne_iff_ne, bne_eq_false_iff_eq, Bool.not_eq_true', Bool.not_eq_false', Bool.not_eq_true, Bool.not_eq_false, ne_eq, Int.not_lt, Int.not_le, Bool.and_eq_true, Bool.or_eq_true, Bool.or_eq_false_iff, Bool.and_eq_false_imp, strOf_toList, Decidable.not_not] at h40)
    · skip
      exact absurd h40 (by simp)
    · skip
      obtain ⟨st, hst⟩ : ∃ st, st = x % 16777216 := ⟨_, rfl⟩
      have hst0 : 0 ≤ st ∧ st < 16777216 := by omega
      have hmod : Sp Tryz.prog 11 [.val (.int .i64 x), .val (.int .i64 16777216)] [] (Is (.val (.int .i64 (seqOf st 0)))) := by
        have h := mod_fn x 16777216 (by omega) (by omega)
        have e : x % 16777216 = seqOf st 0 := by unfold seqOf; omega
        rw [e] at h; exact h
      refine AW.g ?_
      refine G.openRow 0 rfl (by omega) (fun b' cap hc1 hc2 hxs hVe => ?_)
      refine AW.u ?_
      subst hVe
      refine AW.g ?_
      dsimp only [List.set]
      refine AW.u ?_
      refine AW.skip ?_
      refine AQ.thenN ?_
      refine AW.seq ?_
      refine AW.region ?_
      refine AO.op (O.move rfl rfl) rfl rfl rfl ?_
      refine AO.op (O.move rfl rfl) rfl rfl rfl ?_
      refine AO.op (O.call rfl Tryz.func11 rfl rfl rfl (hmod)) rfl rfl rfl ?_
      refine AO.op (O.idxV rfl rfl rfl ⟨(by omega), (by omega)⟩) rfl rfl rfl ?_
      refine AO.op (O.fieldAddr rfl rfl) rfl rfl rfl ?_
      (refine AO.store (i := 0) rfl rfl rfl rfl rfl rfl (by rfl) (by rfl) (by rfl) (by (dsimp only [List.set, List.append, List.cons_append, List.nil_append, roB_cells, roI_cells, roO_cells, splice, ofConst, AV.cells, List.map, List.map_cons, List.map_nil, List.take, List.drop, Nat.zero_add, Nat.add_zero, Nat.reduceAdd, Nat.reduceMul, Nat.zero_mul, Value.cells, List.toList_toArray, zerosA, List.replicate, List.flatten, List.append_nil]; done)) (by (dsimp only [List.set, List.append, List.cons_append, List.nil_append, roB_cells, roI_cells, roO_cells, splice, ofConst, AV.cells, List.map, List.map_cons, List.map_nil, List.take, List.drop, Nat.zero_add, Nat.add_zero, Nat.reduceAdd, Nat.reduceMul, Nat.zero_mul, Value.cells, List.toList_toArray, zerosA, List.replicate, List.flatten, List.append_nil]; done)) ?_)
      refine AO.nil ?_
      refine AQ.thenN ?_
      refine AW.seq ?_
      refine AW.region ?_
      refine AO.op (O.assign rfl rfl) rfl rfl rfl ?_
      refine AO.nil ?_
      refine AQ.thenN ?_
      refine AW.seq ?_
      refine AW.region ?_
      refine AO.op (O.assign rfl rfl) rfl rfl rfl ?_
      refine AO.op (O.assign rfl rfl) rfl rfl rfl ?_
      refine AO.op (O.assign rfl rfl) rfl rfl rfl ?_
      refine AO.op (O.assign rfl rfl) rfl rfl rfl ?_
      refine AO.op (O.assign rfl rfl) rfl rfl rfl ?_
      refine AO.nil ?_
      refine AQ.thenN ?_
      refine AW.seq ?_
      refine AW.block ?_
      refine AW.g ?_
      refine G.closeRow (b := b') 0 rfl hxs rfl hc1 hc2 ?_
      refine AW.u ?_
      refine AW.g ?_
      dsimp only [List.set]
      refine AW.u ?_
      refine AW.g ?_
      refine G.freezeRow 0 rfl [6] (by repeat (first | exact frNil | refine frCons rfl ?_)) ?_
      refine AW.u ?_
      try dsimp only [List.map, List.eraseIdx, List.cons_append, List.nil_append]
      refine AW.g ?_
      refine G.nilRow 45 7 ?_
      refine AW.u ?_
      refine AW.loopK [(5, _)] (fun nn E H => ∃ (kk : Nat) (now : Int) (s : Nat) (T : Nat → Int) (net : List Pk) (kp sq at_ : Int) (V : Value), (kk ≤ l.length) ∧ (s ≤ kk) ∧ (s ≤ 250) ∧ (0 ≤ now ∧ now ≤ 5 * (kk : Int)) ∧ ((∀ i j, i ≤ j → T i ≤ T j)) ∧ ((∀ j, 0 ≤ T j ∧ T j ≤ now)) ∧ (NetO st T net s) ∧ (net.length ≤ kk) ∧ (KpO st T s now kp sq at_) ∧ (V.oneCell' = true) ∧ nn = l.length - kk ∧ E = [(6, wA (seqOf st s)), (8, .val V), (9, .val (.int .i64 now)), (10, .val (.int .i64 (s : Int))), (11, .val (.int .i64 kp)), (12, .val (.int .i64 sq)), (13, .val (.int .i64 at_))] ∧ H = [.row V 45 7 net.length (pksA net), deck B1 l kk]) _ (⟨0, 0, 0, fun _ => 0, [], -1, 0, 0, .slice none 0 0, by omega, by omega, by omega, by omega, fun _ _ _ => Int.le_refl _, fun _ => ⟨Int.le_refl _, Int.le_refl _⟩, (fun q hq => by cases hq), by simp, .inl ⟨rfl, rfl, rfl⟩, rfl, rfl, rfl, rfl⟩) (by repeat (first | exact envNil | refine envCons rfl ?_)) (by repeat (first | exact envNil | refine envCons rfl ?_)) (by repeat (first | exact subPnil | refine subPcons 0 rfl ?_)) ?_
      rintro nn E H ⟨kk, now, s, T, net, kp, sq, at_, V, hk, hs, hs2, hn, hT, hTn, hnet, hnl, hkp, hV, rfl, rfl, rfl⟩
      dsimp only [List.cons_append, List.nil_append]
      refine AW.seq ?_
      refine AW.seq ?_
      refine AW.region ?_
      refine AO.op (O.move rfl rfl) rfl rfl rfl ?_
      (refine AO.callM1 (i := 1) rfl rfl Tryz.func12 rfl rfl rfl rfl rfl rfl (left_fn _ _ _) (by (dsimp only [List.set, List.append, List.cons_append, List.nil_append, roB_cells, roI_cells, roO_cells, splice, ofConst, AV.cells, List.map, List.map_cons, List.map_nil, List.take, List.drop, Nat.zero_add, Nat.add_zero, Nat.reduceAdd, Nat.reduceMul, Nat.zero_mul, Value.cells, List.toList_toArray, zerosA, List.replicate, List.flatten, List.append_nil]; done)) ?_)
      refine AO.nil ?_
      refine AQ.thenN ?_
      refine AW.split rfl (fun hleft => ?_) (fun hleft => ?_) <;> (try simp only [decide_eq_true_eq, decide_eq_false_iff_not, beq_iff_eq, beq_eq_false_iff_ne, bne_iff_ne, bne_eq_false_iff_eq, Bool.not_eq_true', Bool.not_eq_false', Bool.not_eq_true, Bool.not_eq_false, ne_eq, Int.not_lt, Int.not_le, Bool.and_eq_true, Bool.or_eq_true, Bool.or_eq_false_iff, Bool.and_eq_false_imp, strOf_toList, Decidable.not_not] at hleft)
      · skip
        have ha1 := adv_in hleft
        have ha2 := adv_ge l (adv l kk)
        have ha2' : adv l (adv l kk) ≤ l.length := adv_le' (adv_le' hk)
        have hz1 := nxt_in l kk (n := 5) (by omega)
        have hz2 := nxt_in l (adv l kk) (n := 3) (by omega)
        refine AW.skip ?_
        refine AQ.thenN ?_
        refine AW.block ?_
        refine AW.seq ?_
        refine AW.region ?_
        refine AO.op (O.move rfl rfl) rfl rfl rfl ?_
        refine AO.op (O.move rfl rfl) rfl rfl rfl ?_
        (refine AO.callM1 (i := 1) rfl rfl Tryz.func13 rfl rfl rfl rfl rfl rfl (next_fn _ _ _ _ hl (by repeat (assumption)) (by omega) (by omega)) (by (dsimp only [List.set, List.append, List.cons_append, List.nil_append, roB_cells, roI_cells, roO_cells, splice, ofConst, AV.cells, List.map, List.map_cons, List.map_nil, List.take, List.drop, Nat.zero_add, Nat.add_zero, Nat.reduceAdd, Nat.reduceMul, Nat.zero_mul, Value.cells, List.toList_toArray, zerosA, List.replicate, List.flatten, List.append_nil]; done)) ?_)
        refine AO.op (O.add rfl rfl rfl (by exact wI64 (by omega))) rfl rfl rfl ?_
        refine AO.op (O.add rfl rfl rfl (by exact wI64 (by omega))) rfl rfl rfl ?_
        refine AO.op (O.assign rfl rfl) rfl rfl rfl ?_
        refine AO.nil ?_
        refine AQ.thenN ?_
        refine AW.seq ?_
        refine AW.seq ?_
        refine AW.region ?_
        refine AO.op (O.move rfl rfl) rfl rfl rfl ?_
        (refine AO.callM1 (i := 1) rfl rfl Tryz.func13 rfl rfl rfl rfl rfl rfl (next_fn _ _ _ _ hl (by repeat (first | assumption | refine adv_le' ?_)) (by omega) (by omega)) (by (dsimp only [List.set, List.append, List.cons_append, List.nil_append, roB_cells, roI_cells, roO_cells, splice, ofConst, AV.cells, List.map, List.map_cons, List.map_nil, List.take, List.drop, Nat.zero_add, Nat.add_zero, Nat.reduceAdd, Nat.reduceMul, Nat.zero_mul, Value.cells, List.toList_toArray, zerosA, List.replicate, List.flatten, List.append_nil]; done)) ?_)
        refine AO.op (O.eql rfl rfl rfl (by rfl)) rfl rfl rfl ?_
        refine AO.nil ?_
        refine AQ.thenN ?_
        generalize hzz : nxt l (adv l kk) 3 = z3 at *
        generalize hne : now + (1 + nxt l kk 5) = now2 at *
        have hn3 : now ≤ now2 ∧ 0 ≤ now2 ∧ now2 ≤ 5 * (kk : Int) + 5 := by omega
        have hkp2 := hkp.later hn3.1
        have hTn2 : ∀ j, 0 ≤ T j ∧ T j ≤ now2 := fun j => ⟨(hTn j).1, Int.le_trans (hTn j).2 hn3.1⟩
        have hbd := hkp2.bd hn3.2.1
        refine AW.split rfl (fun h0 => ?_) (fun h0 => ?_) <;> (try simp only [decide_eq_true_eq, decide_eq_false_iff_not, beq_iff_eq, beq_eq_false_iff_ne, bne_iff_ne, bne_eq_false_iff_eq, Bool.not_eq_true', Bool.not_eq_false', Bool.not_eq_true, Bool.not_eq_false, ne_eq, Int.not_lt, Int.not_le, Bool.and_eq_true, Bool.or_eq_true, Bool.or_eq_false_iff, Bool.and_eq_false_imp, strOf_toList, Decidable.not_not] at h0)
        · skip
          have hnot : Sp Tryz.prog 14 [wA (seqOf st s), roB [1]] [] (Is (.tup [wA (seqOf st (s + 1)), wA (seqOf st (s + 1))])) := by
            have h := notifyO_fn (seqOf st s) (seqOf_in st s)
            rw [seqOf_succ] at h
            exact h
          refine AW.seq ?_
          refine AW.region ?_
          refine AO.op (O.move rfl rfl) rfl rfl rfl ?_
          refine AO.opB (O.buildSlice rfl rfl rfl (by rfl) (by rfl) (by rfl) (by rfl)) rfl rfl rfl ?_
          intro B5
          refine AO.g ?_
          (refine G.freezeSl 0 58 rfl rfl ⟨Nat.le_refl _, by unfold maxLen; omega⟩ ?_)
          refine G.unfull 58 rfl ?_
          refine AO.u ?_
          dsimp only [List.eraseIdx]
          refine AO.op (O.call rfl Tryz.func14 rfl rfl rfl (hnot)) rfl rfl rfl ?_
          refine AO.op (O.move rfl rfl) rfl rfl rfl ?_
          refine AO.op (O.extract rfl rfl rfl) rfl rfl rfl ?_
          refine AO.op (O.extract rfl rfl rfl) rfl rfl rfl ?_
          refine AO.op (O.assign rfl rfl) rfl rfl rfl ?_
          refine AO.op (O.assign rfl rfl) rfl rfl rfl ?_
          refine AO.nil ?_
          refine AQ.thenN ?_
          refine AW.seq ?_
          refine AW.seq ?_
          refine AW.region ?_
          refine AO.op (O.move rfl rfl) rfl rfl rfl ?_
          refine AO.op (O.lenR rfl rfl) rfl rfl rfl ?_
          refine AO.op (O.neq rfl rfl rfl (by exact bne_eq_false_iff_eq.2 (by omega))) rfl rfl rfl ?_
          refine AO.nil ?_
          refine AQ.thenN ?_
          refine AW.split rfl (fun h64 => ?_) (fun h64 => ?_) <;> (try simp only [decide_eq_true_eq, decide_eq_false_iff_not, beq_iff_eq, beq_eq_false_iff_ne, bne_iff_ne, bne_eq_false_iff_eq, Bool.not_eq_true', Bool.not_eq_false', Bool.not_eq_true, Bool.not_eq_false, ne_eq, Int.not_lt, Int.not_le, Bool.and_eq_true, Bool.or_eq_true, Bool.or_eq_false_iff, Bool.and_eq_false_imp, strOf_toList, Decidable.not_not] at h64)
          · skip
            exact absurd h64 (by simp)
          · skip
            refine AW.skip ?_
            refine AQ.thenN ?_
            refine AW.seq ?_
            refine AW.region ?_
            refine AO.op (O.move rfl rfl) rfl rfl rfl ?_
            refine AO.op (O.assign rfl rfl) rfl rfl rfl ?_
            refine AO.nil ?_
            refine AQ.thenN ?_
            refine AW.seq ?_
            refine AW.region ?_
            refine AO.op (O.move rfl rfl) rfl rfl rfl ?_
            refine AO.op (O.add rfl rfl rfl (by exact wI64 (by omega))) rfl rfl rfl ?_
            refine AO.op (O.assign rfl rfl) rfl rfl rfl ?_
            refine AO.nil ?_
            refine AQ.thenN ?_
            refine AW.seq ?_
            refine AW.seq ?_
            refine AW.region ?_
            refine AO.op (O.move rfl rfl) rfl rfl rfl ?_
            refine AO.op (O.gtr rfl rfl rfl (by rfl)) rfl rfl rfl ?_
            refine AO.nil ?_
            refine AQ.thenN ?_
            refine AW.split rfl (fun h250 => ?_) (fun h250 => ?_) <;> (try simp only [decide_eq_true_eq, decide_eq_false_iff_not, beq_iff_eq, beq_eq_false_iff_ne, bne_iff_ne, bne_eq_false_iff_eq, Bool.not_eq_true', Bool.not_eq_false', Bool.not_eq_true, Bool.not_eq_false, ne_eq, Int.not_lt, Int.not_le, Bool.and_eq_true, Bool.or_eq_true, Bool.or_eq_false_iff, Bool.and_eq_false_imp, strOf_toList, Decidable.not_not] at h250)
            · skip
              refine AW.seq ?_
              refine AW.region ?_
              refine AO.callK hK notFoot_nil rfl rfl Tryz.func8 rfl rfl rfl rfl rfl (awakeT_fn) ?_
              refine AO.op (O.assign rfl rfl) rfl rfl rfl ?_
              refine AO.nil ?_
              refine AQ.thenN ?_
              refine AW.ret ?_
              refine AQ.thenR ?_
              refine AQ.thenR ?_
              refine AQ.blockR ?_
              refine AQ.loopR ?_
              refine AQ.blockR ?_
              refine AQ.thenR ?_
              refine AQ.ret1 rfl rfl ⟨_, List.nil_sublist _, .nil⟩ (⟨rfl, rfl⟩)
            · skip
              have hset : Sp Tryz.prog 15 [aggM ⟨1, 69, 0, [9], [], [u8 ((s : Int) + 1)]⟩, .val (.int .i64 6), roBs [fromU (seqOf st (s + 1))]] [] (Is (aggM (msgO st (s + 1)))) := setN_fn st (s + 1)
              refine AW.skip ?_
              refine AQ.thenN ?_
              refine AW.seq ?_
              refine AW.regionD 19 (by kernel_rfl) (by kernel_rfl) ?_
              simp only [List.take_succ_cons, List.take_zero, List.drop_succ_cons, List.drop_zero]
              refine FA.op (O.move rfl rfl) rfl rfl rfl rfl ?_
              refine FA.op (O.move rfl rfl) rfl rfl rfl rfl ?_
              refine FA.op (O.idxR rfl rfl rfl ⟨(by omega), (by omega)⟩) rfl rfl rfl rfl ?_
              refine FA.op (O.fieldAddrR rfl rfl) rfl rfl rfl rfl ?_
              refine FA.op (O.loadR rfl rfl (by rfl)) rfl rfl rfl rfl ?_
              refine FA.op (O.move rfl rfl) rfl rfl rfl rfl ?_
              refine FA.op (O.conv rfl rfl wU8any) rfl rfl rfl rfl ?_
              refine FA.op (OpW.frz (O.buildSlice rfl rfl rfl (by rfl) (by rfl) (by rfl) (by rfl)) (by (unfold maxLen; omega))) rfl rfl rfl rfl ?_
              refine FA.op (O.build rfl rfl rfl (by rfl)) rfl rfl rfl rfl ?_
              refine FA.op (O.move rfl rfl) rfl rfl rfl rfl ?_
              refine FA.op (O.idxR rfl rfl rfl ⟨(by omega), (by omega)⟩) rfl rfl rfl rfl ?_
              refine FA.op (O.fieldAddrR rfl rfl) rfl rfl rfl rfl ?_
              refine FA.op (O.loadR rfl rfl (by rfl)) rfl rfl rfl rfl ?_
              refine FA.op (O.call rfl Tryz.func16 rfl rfl rfl (fromN_fn st (s + 1))) rfl rfl rfl rfl ?_
              refine FA.op (OpW.frz (O.buildSlice rfl rfl rfl (by rfl) (by rfl) (by rfl) (by rfl)) (by (unfold maxLen; omega))) rfl rfl rfl rfl ?_
              (refine FA.op (O.callC rfl Tryz.func15 rfl rfl rfl (hset) (by (repeat (first | exact CoeL.nil | refine CoeL.cons Coe.rfl ?_ | refine CoeL.cons Coe.nil ?_ | refine CoeL.cons (Coe.agg ?_) ?_)); done)) rfl rfl rfl rfl ?_)
              refine FA.op (O.move rfl rfl) rfl rfl rfl rfl ?_
              refine FA.op (O.build rfl rfl rfl (by rfl)) rfl rfl rfl rfl ?_
              refine FA.op (OpW.frz (O.buildSlice rfl rfl rfl (by rfl) (by rfl) (by rfl) (by rfl)) (by (unfold maxLen; omega))) rfl rfl rfl rfl ?_
              refine FA.nil ?_
              simp only [chosen, List.nil_append, List.cons_append, List.append_nil]
              (refine AO.append' (i := 0) rfl rfl rfl rfl (by rfl) (by rfl) rfl rfl rfl (by exact SrcA.ro TyD.ax (by rfl) (Nat.le_of_ble_eq_true rfl)) (by rfl) (by (unfold maxLen; omega)) (by omega) (by (dsimp only [List.set, List.append, List.cons_append, List.nil_append, roB_cells, roI_cells, roO_cells, splice, ofConst, AV.cells, List.map, List.map_cons, List.map_nil, List.take, List.drop, Nat.zero_add, Nat.add_zero, Nat.reduceAdd, Nat.reduceMul, Nat.zero_mul, Value.cells, List.toList_toArray, zerosA, List.replicate, List.flatten, List.append_nil]; done)) (fun _ => by (dsimp only [List.set]; done)) ?_)
              intro V6 hV6
              refine AO.op (O.assign rfl rfl) rfl rfl rfl ?_
              refine AO.nil ?_
              refine AQ.thenN ?_
              refine AW.exit ?_
              refine AQ.thenX ?_
              refine AQ.blockX rfl ?_
              have hgu := pksB_snoc net (msgO st (s + 1)) now2
              have hgl : (net ++ [(⟨msgO st (s + 1), now2⟩ : Pk)]).length = net.length + 1 := by rw [List.length_append]; rfl
              rw [show pksA net ++ _ = _ from hgu, ← hgl]
              refine AQ.loopKN _ _ _ (by omega) (⟨_, now2, s + 1, nextT T s now2, _, kp, sq, at_, _, ha2', by omega, by omega, by omega, nextT_mono hT hTn2, nextT_in hTn2 hn3.2.1, hnet.next, by omega, hkp2.next, ‹_›, rfl, rfl, rfl⟩) (by repeat (first | exact envNil | refine envCons rfl ?_)) (by repeat (first | exact envNil | refine envCons rfl ?_)) (by repeat (first | exact subPnil | refine subPcons 0 rfl ?_))
        · skip
          refine AW.skip ?_
          refine AQ.thenN ?_
          refine AW.seq ?_
          refine AW.seq ?_
          refine AW.region ?_
          refine AO.op (O.move rfl rfl) rfl rfl rfl ?_
          refine AO.op (O.lenRow rfl rfl (by repeat (exact List.Mem.head _))) rfl rfl rfl ?_
          refine AO.op (O.eql rfl rfl rfl (by rfl)) rfl rfl rfl ?_
          refine AO.nil ?_
          refine AQ.thenN ?_
          refine AW.split rfl (fun hem => ?_) (fun hem => ?_) <;> (try simp only [decide_eq_true_eq, decide_eq_false_iff_not, beq_iff_eq, beq_eq_false_iff_ne, bne_iff_ne, bne_eq_false_iff_eq, Bool.not_eq_true', Bool.not_eq_false', Bool.not_eq_true, Bool.not_eq_false, ne_eq, Int.not_lt, Int.not_le, Bool.and_eq_true, Bool.or_eq_true, Bool.or_eq_false_iff, Bool.and_eq_false_imp, strOf_toList, Decidable.not_not] at hem)
          · skip
            refine AW.exit ?_
            refine AQ.thenX ?_
            refine AQ.blockX rfl ?_
            refine AQ.loopKN _ _ _ (by omega) (⟨_, now2, s, T, net, kp, sq, at_, V, ha2', by omega, hs2, by omega, hT, hTn2, hnet, by omega, hkp2, hV, rfl, rfl, rfl⟩) (by repeat (first | exact envNil | refine envCons rfl ?_)) (by repeat (first | exact envNil | refine envCons rfl ?_)) (by repeat (first | exact subPnil | refine subPcons 0 rfl ?_))
          · skip
            have hnl0 : 0 < net.length := by omega
            have hz3 := nxt_in l (adv l (adv l kk)) (n := (net.length : Int)) (by omega)
            have ha3 := adv_ge l (adv l (adv l kk))
            have ha3' : adv l (adv l (adv l kk)) ≤ l.length := adv_le' ha2'
            obtain ⟨i, hi⟩ : ∃ i : Nat, nxt l (adv l (adv l kk)) (net.length : Int) = (i : Int) := ⟨(nxt l (adv l (adv l kk)) (net.length : Int)).toNat, by omega⟩
            rw [hi] at hz3
            have hil : i < net.length := by omega
            obtain ⟨j, hj1, hjs, hqm, hqa⟩ := hnet _ (getD_mem Pk.none hil)
            have hqm' : (pk net i).m = msgO st j := hqm
            have hqa' : (pk net i).at_ = T j := hqa
            have hTj := hTn2 j
            have hgp : ((pksA net).drop (0 + (nxt l (adv l (adv l kk)) (net.length : Int)).toNat * 7)).take 7 = [.val (.int .i64 1), .val (.int .i64 69), .val (.int .i64 0), roB [9], roO [⟨6, fromU (seqOf st j)⟩], roB [u8 (j : Int)], .val (.int .i64 (T j))] := by
              rw [getP hil (by omega)]; show cP (pk net i) = _; simp only [cP, hqm', hqa']
            refine AW.g ?_
            refine G.openRow 0 rfl (by omega) (fun b' cap hc1 hc2 hxs hVe => ?_)
            refine AW.u ?_
            subst hVe
            refine AW.g ?_
            dsimp only [List.set]
            refine AW.u ?_
            refine AW.skip ?_
            refine AQ.thenN ?_
            refine AW.seq ?_
            refine AW.region ?_
            refine AO.op (O.move rfl rfl) rfl rfl rfl ?_
            refine AO.op (O.move rfl rfl) rfl rfl rfl ?_
            refine AO.op (O.move rfl rfl) rfl rfl rfl ?_
            refine AO.op (O.lenV rfl rfl) rfl rfl rfl ?_
            (refine AO.callM1 (i := 1) rfl rfl Tryz.func13 rfl rfl rfl rfl rfl rfl (next_fn _ _ _ _ hl (by repeat (assumption)) (by omega) (by omega)) (by (dsimp only [List.set, List.append, List.cons_append, List.nil_append, roB_cells, roI_cells, roO_cells, splice, ofConst, AV.cells, List.map, List.map_cons, List.map_nil, List.take, List.drop, Nat.zero_add, Nat.add_zero, Nat.reduceAdd, Nat.reduceMul, Nat.zero_mul, Value.cells, List.toList_toArray, zerosA, List.replicate, List.flatten, List.append_nil]; done)) ?_)
            refine AO.op (O.idxV rfl rfl rfl ⟨(by omega), (by omega)⟩) rfl rfl rfl ?_
            refine AO.op (O.loadK rfl rfl (by repeat (exact List.Mem.head _)) (by exact hgp) (by rfl)) rfl rfl rfl ?_
            refine AO.opB (O.alloc rfl (by (dsimp only [List.set, List.append, List.cons_append, List.nil_append, roB_cells, roI_cells, roO_cells, splice, ofConst, AV.cells, List.map, List.map_cons, List.map_nil, List.take, List.drop, Nat.zero_add, Nat.add_zero, Nat.reduceAdd, Nat.reduceMul, Nat.zero_mul, Value.cells, List.toList_toArray, zerosA, List.replicate, List.flatten, List.append_nil]; done)) (by rfl)) rfl rfl rfl ?_
            intro B7
            (refine AO.store (i := 0) rfl rfl rfl rfl rfl rfl (by rfl) (by rfl) (by rfl) (by (dsimp only [List.set, List.append, List.cons_append, List.nil_append, roB_cells, roI_cells, roO_cells, splice, ofConst, AV.cells, List.map, List.map_cons, List.map_nil, List.take, List.drop, Nat.zero_add, Nat.add_zero, Nat.reduceAdd, Nat.reduceMul, Nat.zero_mul, Value.cells, List.toList_toArray, zerosA, List.replicate, List.flatten, List.append_nil]; done)) (by (dsimp only [List.set, List.append, List.cons_append, List.nil_append, roB_cells, roI_cells, roO_cells, splice, ofConst, AV.cells, List.map, List.map_cons, List.map_nil, List.take, List.drop, Nat.zero_add, Nat.add_zero, Nat.reduceAdd, Nat.reduceMul, Nat.zero_mul, Value.cells, List.toList_toArray, zerosA, List.replicate, List.flatten, List.append_nil]; done)) ?_)
            refine AO.nil ?_
            refine AQ.thenN ?_
            refine AW.seq ?_
            refine AW.seq ?_
            refine AW.region ?_
            refine AO.op (O.move rfl rfl) rfl rfl rfl ?_
            refine AO.op (O.fieldAddr rfl rfl) rfl rfl rfl ?_
            refine AO.op (O.load rfl rfl (by repeat (exact List.Mem.head _)) (by rfl)) rfl rfl rfl ?_
            refine AO.op (O.sub rfl rfl rfl (by exact wI64 (by omega))) rfl rfl rfl ?_
            refine AO.op (O.geq rfl rfl rfl (by rfl)) rfl rfl rfl ?_
            refine AO.nil ?_
            refine AQ.thenN ?_
            refine AW.g ?_
            refine G.closeRow (b := b') 1 rfl hxs rfl hc1 hc2 ?_
            refine AW.u ?_
            refine AW.g ?_
            dsimp only [List.set]
            refine AW.u ?_
            refine AW.split rfl (fun hold => ?_) (fun hold => ?_) <;> (try simp only [decide_eq_true_eq, decide_eq_false_iff_not, beq_iff_eq, beq_eq_false_iff_ne, bne_iff_ne, bne_eq_false_iff_eq, Bool.not_eq_true', Bool.not_eq_false', Bool.not_eq_true, Bool.not_eq_false, ne_eq, Int.not_lt, Int.not_le, Bool.and_eq_true, Bool.or_eq_true, Bool.or_eq_false_iff, Bool.and_eq_false_imp, strOf_toList, Decidable.not_not] at hold)
            · skip
              refine AW.exit ?_
              refine AQ.thenX ?_
              refine AQ.blockX rfl ?_
              refine AQ.loopKN _ _ _ (by omega) (⟨_, now2, s, T, net, kp, sq, at_, _, ha3', by omega, hs2, by omega, hT, hTn2, hnet, by omega, hkp2, hV, rfl, rfl, rfl⟩) (by repeat (first | exact envNil | refine envCons rfl ?_)) (by repeat (first | exact envNil | refine envCons rfl ?_)) (by repeat (first | exact subPnil | refine subPcons 1 rfl ?_))
            · skip
              have hnw : 0 ≤ sq ∧ sq < 16777216 ∧ 0 ≤ seqOf st j ∧ seqOf st j < 16777216 ∧ -4611686018427387904 ≤ at_ ∧ at_ ≤ 4611686018427387903 ∧ -4611686018427387904 ≤ now2 ∧ now2 ≤ 4611686018427387903 := by
                have := seqOf_in st j
                omega
              refine AW.skip ?_
              refine AQ.thenN ?_
              refine AW.seq ?_
              refine AW.region ?_
              refine AO.op (O.fieldAddr rfl rfl) rfl rfl rfl ?_
              (refine AO.op (O.loadK rfl rfl (by repeat (exact List.Mem.head _)) (by (dsimp only [List.set, List.append, List.cons_append, List.nil_append, roB_cells, roI_cells, roO_cells, splice, ofConst, AV.cells, List.map, List.map_cons, List.map_nil, List.take, List.drop, Nat.zero_add, Nat.add_zero, Nat.reduceAdd, Nat.reduceMul, Nat.zero_mul, Value.cells, List.toList_toArray, zerosA, List.replicate, List.flatten, List.append_nil]; done)) (by rfl)) rfl rfl rfl ?_)
              refine AO.op (O.call rfl Tryz.func17 rfl rfl rfl (getN_fn st j)) rfl rfl rfl ?_
              refine AO.op (O.move rfl rfl) rfl rfl rfl ?_
              refine AO.op (O.extract rfl rfl rfl) rfl rfl rfl ?_
              refine AO.op (O.extract rfl rfl rfl) rfl rfl rfl ?_
              refine AO.op (O.assign rfl rfl) rfl rfl rfl ?_
              refine AO.op (O.assign rfl rfl) rfl rfl rfl ?_
              refine AO.nil ?_
              refine AQ.thenN ?_
              refine AW.seq ?_
              refine AW.region ?_
              refine AO.op (O.move rfl rfl) rfl rfl rfl ?_
              refine AO.op (O.call rfl Tryz.func18 rfl rfl rfl (uintN_fn st j)) rfl rfl rfl ?_
              refine AO.op (O.move rfl rfl) rfl rfl rfl ?_
              refine AO.op (O.extract rfl rfl rfl) rfl rfl rfl ?_
              refine AO.op (O.extract rfl rfl rfl) rfl rfl rfl ?_
              refine AO.op (O.assign rfl rfl) rfl rfl rfl ?_
              refine AO.op (O.assign rfl rfl) rfl rfl rfl ?_
              refine AO.nil ?_
              refine AQ.thenN ?_
              refine AW.seq ?_
              refine AW.seq ?_
              refine AW.region ?_
              refine AO.op (O.move rfl rfl) rfl rfl rfl ?_
              refine AO.op (O.not rfl rfl (by rfl)) rfl rfl rfl ?_
              refine AO.op (O.move rfl rfl) rfl rfl rfl ?_
              refine AO.op (O.move rfl rfl) rfl rfl rfl ?_
              refine AO.op (O.neq rfl rfl rfl (by exact bne_eq_false_iff_eq.2 (by omega))) rfl rfl rfl ?_
              refine AO.op (O.pickF rfl rfl rfl) rfl rfl rfl ?_
              refine AO.op (O.move rfl rfl) rfl rfl rfl ?_
              refine AO.op (O.fieldAddr rfl rfl) rfl rfl rfl ?_
              refine AO.op (O.fieldAddr rfl rfl) rfl rfl rfl ?_
              refine AO.op (O.load rfl rfl (by repeat (exact List.Mem.head _)) (by rfl)) rfl rfl rfl ?_
              refine AO.op (O.lenR rfl rfl) rfl rfl rfl ?_
              refine AO.op (O.neq rfl rfl rfl (by rfl)) rfl rfl rfl ?_
              refine AO.op (O.pickF rfl rfl rfl) rfl rfl rfl ?_
              refine AO.nil ?_
              refine AQ.thenN ?_
              refine AW.split rfl (fun h129 => ?_) (fun h129 => ?_) <;> (try simp only [decide_eq_true_eq, decide_eq_false_iff_not, beq_iff_eq, beq_eq_false_iff_ne, bne_iff_ne, bne_eq_false_iff_eq, Bool.not_eq_true', Bool.not_eq_false', Bool.not_eq_true, Bool.not_eq_false, ne_eq, Int.not_lt, Int.not_le, Bool.and_eq_true, Bool.or_eq_true, Bool.or_eq_false_iff, Bool.and_eq_false_imp, strOf_toList, Decidable.not_not] at h129)
              · skip
                exact absurd h129 (by simp)
              · skip
                have hu8 : ((u8 (j : Int)).toNat : Int) = (j : Int) := by rw [u8_nat]; omega
                refine AW.skip ?_
                refine AQ.thenN ?_
                refine AW.seq ?_
                refine AW.region ?_
                refine AO.op (O.fieldAddr rfl rfl) rfl rfl rfl ?_
                refine AO.op (O.fieldAddr rfl rfl) rfl rfl rfl ?_
                refine AO.op (O.load rfl rfl (by repeat (exact List.Mem.head _)) (by rfl)) rfl rfl rfl ?_
                refine AO.op (O.idxR rfl rfl rfl ⟨(by omega), (by omega)⟩) rfl rfl rfl ?_
                refine AO.op (O.loadR rfl rfl (by rfl)) rfl rfl rfl ?_
                refine AO.op (O.conv rfl rfl (by exact wI64 (by omega))) rfl rfl rfl ?_
                refine AO.op (O.assign rfl rfl) rfl rfl rfl ?_
                refine AO.nil ?_
                refine AQ.thenN ?_
                refine AW.seq ?_
                refine AW.region ?_
                refine AO.op (O.move rfl rfl) rfl rfl rfl ?_
                refine AO.op (O.lss rfl rfl rfl (by rfl)) rfl rfl rfl ?_
                refine AO.op (O.move rfl rfl) rfl rfl rfl ?_
                refine AO.opG rfl rfl rfl (fun hp => O.move rfl rfl) ?_
                refine AO.opG rfl rfl rfl (fun hp => O.move rfl rfl) ?_
                refine AO.opG rfl rfl rfl (fun hp => O.move rfl rfl) ?_
                refine AO.opG rfl rfl rfl (fun hp => O.move rfl rfl) ?_
                refine AO.opG rfl rfl rfl (fun hp => OpW.force 139 rfl (by exact hp) (OpW.force 140 rfl (by exact hp) (OpW.force 141 rfl (by exact hp) (OpW.force 142 rfl (by exact hp) (O.call rfl Tryz.func19 rfl rfl rfl (newerO_fn _ _ _ _ hnw)))))) ?_
                refine AO.op (O.pickOr rfl rfl rfl rfl (fun h => by exact congrArg (fun b => !b) h)) rfl rfl rfl ?_
                refine AO.nil ?_
                refine AQ.thenN ?_
                rw [hu8]
                refine AW.split rfl (fun h144 => ?_) (fun h144 => ?_) <;> (try simp only [decide_eq_true_eq, decide_eq_false_iff_not, beq_iff_eq, beq_eq_false_iff_ne, bne_iff_ne, bne_eq_false_iff_eq, Bool.not_eq_true', Bool.not_eq_false', Bool.not_eq_true, Bool.not_eq_false, ne_eq, Int.not_lt, Int.not_le, Bool.and_eq_true, Bool.or_eq_true, Bool.or_eq_false_iff, Bool.and_eq_false_imp, strOf_toList, Decidable.not_not] at h144)
                · skip
                  refine AW.seq ?_
                  refine AW.seq ?_
                  refine AW.region ?_
                  refine AO.op (O.move rfl rfl) rfl rfl rfl ?_
                  refine AO.op (O.move rfl rfl) rfl rfl rfl ?_
                  refine AO.op (O.lss rfl rfl rfl (by rfl)) rfl rfl rfl ?_
                  refine AO.nil ?_
                  refine AQ.thenN ?_
                  refine AW.split rfl (fun hlt => ?_) (fun hlt => ?_) <;> (try simp only [decide_eq_true_eq, decide_eq_false_iff_not, beq_iff_eq, beq_eq_false_iff_ne, bne_iff_ne, bne_eq_false_iff_eq, Bool.not_eq_true', Bool.not_eq_false', Bool.not_eq_true, Bool.not_eq_false, ne_eq, Int.not_lt, Int.not_le, Bool.and_eq_true, Bool.or_eq_true, Bool.or_eq_false_iff, Bool.and_eq_false_imp, strOf_toList, Decidable.not_not] at hlt)
                  · skip
                    exfalso
                    rcases hkp2 with ⟨e1, -, -⟩ | ⟨jj, k1, k2, rfl, rfl, k3, k4, k5⟩
                    · omega
                    · have hkl := (keep_law (st := st) (k := jj) (s := j) (at_ := at_) (now := now2) hT (by omega) (by omega) k3 (by omega)).1 (h144.resolve_left (by omega))
                      omega
                  · skip
                    refine AW.skip ?_
                    refine AQ.thenN ?_
                    refine AW.region ?_
                    refine AO.op (O.move rfl rfl) rfl rfl rfl ?_
                    refine AO.op (O.move rfl rfl) rfl rfl rfl ?_
                    refine AO.op (O.move rfl rfl) rfl rfl rfl ?_
                    refine AO.op (O.assign rfl rfl) rfl rfl rfl ?_
                    refine AO.op (O.assign rfl rfl) rfl rfl rfl ?_
                    refine AO.op (O.assign rfl rfl) rfl rfl rfl ?_
                    refine AO.nil ?_
                    refine AQ.blockN ?_
                    refine AQ.loopKN _ _ _ (by omega) (⟨_, now2, s, T, net, (j : Int), seqOf st j, now2, _, ha3', by omega, hs2, by omega, hT, hTn2, hnet, by omega, .inr ⟨j, hj1, hjs, rfl, rfl, hTj.2, hn3.2.1, Int.le_refl _⟩, hV, rfl, rfl, rfl⟩) (by repeat (first | exact envNil | refine envCons rfl ?_)) (by repeat (first | exact envNil | refine envCons rfl ?_)) (by repeat (first | exact subPnil | refine subPcons 1 rfl ?_))
                · skip
                  refine AW.seq ?_
                  refine AW.region ?_
                  refine AO.op (O.move rfl rfl) rfl rfl rfl ?_
                  refine AO.op (O.move rfl rfl) rfl rfl rfl ?_
                  refine AO.op (O.gtr rfl rfl rfl (by rfl)) rfl rfl rfl ?_
                  refine AO.nil ?_
                  refine AQ.thenN ?_
                  refine AW.split rfl (fun hgt => ?_) (fun hgt => ?_) <;> (try simp only [decide_eq_true_eq, decide_eq_false_iff_not, beq_iff_eq, beq_eq_false_iff_ne, bne_iff_ne, bne_eq_false_iff_eq, Bool.not_eq_true', Bool.not_eq_false', Bool.not_eq_true, Bool.not_eq_false, ne_eq, Int.not_lt, Int.not_le, Bool.and_eq_true, Bool.or_eq_true, Bool.or_eq_false_iff, Bool.and_eq_false_imp, strOf_toList, Decidable.not_not] at hgt)
                  · skip
                    exfalso
                    rcases hkp2 with ⟨e1, -, -⟩ | ⟨jj, k1, k2, rfl, rfl, k3, k4, k5⟩
                    · omega
                    · have hkl := (keep_law (st := st) (k := jj) (s := j) (at_ := at_) (now := now2) hT (by omega) (by omega) k3 (by omega)).2 h144.2
                      omega
                  · skip
                    refine AW.skip ?_
                    refine AQ.blockN ?_
                    refine AQ.loopKN _ _ _ (by omega) (⟨_, now2, s, T, net, kp, sq, at_, _, ha3', by omega, hs2, by omega, hT, hTn2, hnet, by omega, hkp2, hV, rfl, rfl, rfl⟩) (by repeat (first | exact envNil | refine envCons rfl ?_)) (by repeat (first | exact envNil | refine envCons rfl ?_)) (by repeat (first | exact subPnil | refine subPcons 1 rfl ?_))
      · skip
        refine AW.exit ?_
        refine AQ.thenX ?_
        refine AQ.loopX ?_
        refine AQ.blockX rfl ?_
        refine AQ.thenN ?_
        refine AW.seq ?_
        refine AW.region ?_
        refine AO.callK hK notFoot_nil rfl rfl Tryz.func8 rfl rfl rfl rfl rfl (awakeT_fn) ?_
        refine AO.op (O.assign rfl rfl) rfl rfl rfl ?_
        refine AO.nil ?_
        refine AQ.thenN ?_
        refine AW.ret ?_
        refine AQ.ret1 rfl rfl ⟨_, List.nil_sublist _, .nil⟩ (⟨rfl, rfl⟩)
end Go.Proofs.YtoonnnifelnaiaaGreatDoor.By

namespace Go.Proofs.YtoonnnifelnaiaaGreatDoor.A
open Go.ChangeShapes Go.WideShapes Go.ChangeAt Go.RowKit Go.Deep L
set_option linter.unusedVariables false
set_option maxRecDepth 20000
set_option linter.unusedSimpArgs false
theorem law_contractK {f : FuncId} {fn : Func} {s : ChangeSpec} {H : Type} {K : World → Prop} (enc : TypeId × Value → H) {ts : List TypeId} {φs : List (AV → Prop)} (hp : fn.params.toList = ts) (hr : ReadsL Tryz.prog ts φs)
    (h : AllOf φs fun xs => SpK K Tryz.prog f xs [] (Is (.val (.bool true)))) {W : World} {base : Nat} {args : Array Value} {ds gs : List (DataW H)} {before : List MemPlace} (hK : K W)
    (hval : ∀ (j : Nat) t v, fn.params[j]? = some t → args[j]? = some v → Value.okWide Tryz.prog W .any base t v)
    (hW : DataW.Whole enc Tryz.prog fn.params.toList s.vars false W args.toList ds gs before)
    (post : ∀ W', Ext W W' → s.post enc Tryz.prog fn false true false false W args (.bool true) W') :
    Calls Tryz.prog f args W fun e W' => ∃ v, e = .returned v ∧ s.post enc Tryz.prog fn false true false false W args v W' := by
  obtain ⟨p, q, hA, hV, rfl, hfz, hnd⟩ := hW
  rw [hp] at hA
  obtain ⟨xs, hS, hR⟩ := readAll (b0 := base) hr h (fun j t v h1 h2 => hval j t v (by rw [← Array.getElem?_toList, hp]; exact h1) (by rw [← Array.getElem?_toList]; exact h2)) hA
  have hc := hS W (Old W) args.toList hK (fun b hb => hb) (fun e he => by cases he) .nil hR
  rw [Array.toArray_toList] at hc
  refine hc.mono ?_
  rintro e W' ⟨u, r, H', R', rfl, ⟨rfl, rfl⟩, hs, hv⟩
  obtain rfl := hv.val_inv
  exact ⟨_, rfl, post W' (hs.mods.mono fun b _ ⟨e, he, _⟩ => by cases he)⟩
/-- A listed variable that is an array of strings. -/
theorem reads_strs {P : Program} {w : World} {l : List (String × DataW Unit)} {n : String} {ss : List (List UInt8)} {g k e : Nat} {ty : TypeId} (h : laidMet P l w) (hk0 : 0 < k) (hm : (n, DataW.agg (ss.map fun s => .lit (.string s))) ∈ l)
    (hg : P.globalNamed n = some g) (ht : (P.globals[g]?).map (·.type) = some ty) (hu : P.underlying ty = some (.array k e)) (hk : ss.length = k) (he : P.underlying e = some .string) (hc : P.cellsOf e = 1) (hct : P.cellsOf ty = k) :
    GK g (ss.map fun s => .string ⟨s.toArray⟩) w := by
  obtain ⟨ps, hv, hnd, hp⟩ := h
  have key : ∀ (l : List (String × DataW Unit)) (ps : List MemPlace), DataW.LaidVars P w l ps → ∀ n d, (n, d) ∈ l →
      ∃ g t cs fuel p, P.globalNamed n = some g ∧ (P.globals[g]?).map (·.type) = some t ∧ w.var? P n = some cs ∧ DataW.trod (fun _ => ()) P w 0 (fun _ => true) false fuel t cs.toList = some (d, p) ∧ ∀ x ∈ MemPlace.row ⟨g, 0, none⟩ cs.size, x ∈ ps := by
    intro l
    induction l with
    | nil => intro _ _ _ _ hm; cases hm
    | cons y r ih =>
      obtain ⟨n', d'⟩ := y
      intro ps h n d hm
      obtain ⟨g, t, cs, fuel, p, q, h1, h2, h3, h4, h5, h6⟩ := h
      rcases List.mem_cons.1 hm with e | e
      · cases e
        exact ⟨g, t, cs, fuel, p, h1, h2, h3, h4, fun x hx => by rw [h6]; simp [hx]⟩
      · obtain ⟨g', t', cs', fuel', p', a1, a2, a3, a4, a5⟩ := ih q h5 n d e
        exact ⟨g', t', cs', fuel', p', a1, a2, a3, a4, fun x hx => by rw [h6]; simp [a5 x hx]⟩
  obtain ⟨g', t', cs, fuel, p, a1, a2, a3, a4, a5⟩ := key _ _ hv _ _ hm
  obtain rfl : g = g' := Option.some.inj (hg.symm.trans a1)
  obtain rfl : ty = t' := Option.some.inj (ht.symm.trans a2)
  obtain ⟨xs, m, rfl, hx, hl, hxl, hall⟩ := DataW.trod_array hu a4
  have hxs : xs.map (·.1) = ss.map fun s => (DataW.lit (.string s) : DataW Unit) := by
    have := congrArg Prod.fst hx
    simpa using this.symm
  have hcs : cs.toList = ss.map fun s => Value.string ⟨s.toArray⟩ := by
    apply List.ext_getElem?
    intro i
    by_cases hi : i < k
    · have h1 := hall i hi
      obtain ⟨b, hb⟩ : ∃ b, xs[i]? = some b := ⟨xs[i]'(by omega), List.getElem?_eq_getElem (by omega)⟩
      rw [hb, hc] at h1
      obtain ⟨s, hcs, rfl, _⟩ := DataW.trod_string he h1
      have h2 : cs.toList[i]? = some (.string s) := by
        have := congrArg (·[0]?) hcs
        simpa [List.getElem?_take, List.getElem?_drop] using this
      have h3 : (xs.map (·.1))[i]? = some (DataW.lit (.string s.data.toList) : DataW Unit) := by simp [hb]
      rw [hxs] at h3
      simp only [List.getElem?_map, Option.map_eq_some_iff, DataW.lit.injEq, Lit.string.injEq] at h3
      obtain ⟨z', hz', rfl⟩ := h3
      rw [h2, List.getElem?_map, hz']
      simp
    · rw [List.getElem?_eq_none (by rw [hl, hct]; omega), List.getElem?_eq_none (by rw [List.length_map]; omega)]
  have hsz : cs.size = k := by rw [← hct, ← hl]; simp
  simp only [World.var?, a1, Option.bind_some] at a3
  have hcell : ∃ c T fr, w.heap[g]? = some (.cells c T fr) ∧ c = cs := by
    split at a3
    · rename_i c T fr hh
      exact ⟨c, T, fr, hh, by simpa using a3⟩
    · cases a3
  obtain ⟨c, T, fr, hh, rfl⟩ := hcell
  obtain ⟨⟨c', T', hh'⟩, _⟩ := hp g 0 (a5 _ (by unfold MemPlace.row; rw [List.mem_map]; exact ⟨0, List.mem_range.2 (by omega), rfl⟩))
  rw [hh] at hh'
  cases hh'
  exact ⟨_, _, hh, hcs⟩
end Go.Proofs.YtoonnnifelnaiaaGreatDoor.A
