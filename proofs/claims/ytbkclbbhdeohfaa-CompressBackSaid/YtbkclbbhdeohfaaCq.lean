/-
  Layer 27: the reference's encoding; sizes; equality of values.
-/
import Derived.Test.YtbkclbbhdeohfaaCp
namespace Go.Proofs.Ytbkclbbhdeohfaa.By
open Go.RowKit L A Dk
set_option linter.unusedVariables false
set_option linter.unusedSimpArgs false
attribute [local irreducible] AW AQ AO

theorem beGo_pos_len : ∀ (n : Nat) (out : List UInt8), out ≠ [] → beGo n out ≠ [] := by
  intro n
  induction n using Nat.strongRecOn with
  | _ n ih =>
    intro out h
    by_cases h0 : n = 0
    · subst h0; rw [beGo_zero]; exact h
    · rw [beGo_pos h0]; exact ih _ (Nat.div_lt_self (by omega) (by omega)) _ (by simp)
theorem pivB_nil {n : Int} (h : n ≤ 1099511627775) : (pivB n).length = 0 ↔ n < 0 := by
  unfold pivB
  split
  · simp; omega
  · have := beGo_pos_len (n.toNat / 256) [u8 n] (by simp)
    constructor
    · intro h; exact absurd (List.eq_nil_of_length_eq_zero h) this
    · intro h; omega

set_option maxHeartbeats 4000000 in
theorem rcencode_fn (c : Cmp) : Sp Try.prog 8 [aggC c] [] (Is (.tup [roB (encC c).1, .val (.int .i64 (encC c).2)])) := by
  have hfl := flg_le (c := c)
  have hpl := pivB_len c.piv
  obtain ⟨piv, hk, kid, hc, ctx, g⟩ := c
  refine Sp.enter Try.func8 rfl _ Try.ntmps8 rfl (fun w0 R0 => ?_)
  refine AW.seq ?_
  refine AW.region ?_
  refine AO.opB (O.box rfl rfl rfl rfl rfl) rfl rfl rfl ?_
  intro B
  refine AO.op (O.assign rfl rfl) rfl rfl rfl ?_
  refine AO.op (O.assign rfl rfl) rfl rfl rfl ?_
  refine AO.nil ?_
  refine AQ.thenN ?_
  refine AW.seq ?_
  refine AW.seq ?_
  refine AW.region ?_
  (refine AO.op (O.loadK rfl rfl (by repeat (exact List.Mem.head _)) (by (dsimp only [List.set, List.append, List.cons_append, List.nil_append, splice, ofConst, AV.cells, List.map, List.map_cons, List.map_nil, List.take, List.drop, Nat.zero_add, Nat.add_zero, Nat.reduceAdd, Nat.reduceMul, Nat.zero_mul, Value.cells, List.toList_toArray, zerosA, List.replicate, List.flatten, List.append_nil]; done)) (by rfl)) rfl rfl rfl ?_)
  refine AO.op (O.call rfl Try.func20 rfl rfl rfl (rcvalid_fn ⟨_, _, _, _, _, _⟩)) rfl rfl rfl ?_
  refine AO.op (O.not rfl rfl (by rfl)) rfl rfl rfl ?_
  refine AO.nil ?_
  refine AQ.thenN ?_
  refine AW.split rfl (fun h => ?_) (fun h => ?_) <;> (try simp only [decide_eq_true_eq, decide_eq_false_iff_not, beq_iff_eq, beq_eq_false_iff_ne, bne_iff_ne, bne_eq_false_iff_eq, Bool.not_eq_true', Bool.not_eq_false', Bool.not_eq_true, Bool.not_eq_false, ne_eq, Int.not_lt, Int.not_le, Bool.and_eq_true, Bool.or_eq_true, Bool.or_eq_false_iff, Bool.and_eq_false_imp, strOf_toList, Decidable.not_not] at h)
  · skip
    have e : encC ⟨piv, hk, kid, hc, ctx, g⟩ = ([], 1) := by unfold encC; rw [if_pos h]
    rw [e]
    refine AW.seq ?_
    refine AW.region ?_
    refine AO.op (O.assign rfl rfl) rfl rfl rfl ?_
    refine AO.op (O.assign rfl rfl) rfl rfl rfl ?_
    refine AO.nil ?_
    refine AQ.thenN ?_
    refine AW.ret ?_
    refine AQ.thenR ?_
    refine AQ.g ?_
    refine G.nilRo 2 rfl ?_
    refine AQ.u ?_
    try dsimp only [List.map, List.eraseIdx, List.cons_append, List.nil_append]
    refine AQ.ret2 rfl rfl rfl ⟨_, List.nil_sublist _, .nil⟩ (⟨rfl, rfl⟩)
  · skip
    have hfl := hfl h
    have e : encC ⟨piv, hk, kid, hc, ctx, g⟩ = if flg ⟨piv, hk, kid, hc, ctx, g⟩ = 0 then ([], 0) else (encB ⟨piv, hk, kid, hc, ctx, g⟩, 0) := by unfold encC; rw [if_neg (by simpa using h)]
    rw [e]
    obtain ⟨⟨a1, a2, a3, a4⟩, -⟩ := h
    simp only at *
    have hnil := pivB_nil a2
    have hnil' : pivB piv = [] ↔ piv < 0 := by rw [← List.length_eq_zero_iff]; exact hnil
    have hz0 : flg ⟨piv, hk, kid, hc, ctx, g⟩ = 0 ↔ (piv = -1 ∧ hk = false ∧ hc = false ∧ g = false) := by
      unfold flg
      cases hk <;> cases hc <;> cases g <;> simp [hnil'] <;> omega
    refine AW.skip ?_
    refine AQ.thenN ?_
    refine AW.seq ?_
    refine AW.seq ?_
    refine AW.region ?_
    refine AO.op (O.fieldAddr rfl rfl) rfl rfl rfl ?_
    refine AO.op (O.load rfl rfl (by repeat (exact List.Mem.head _)) (by rfl)) rfl rfl rfl ?_
    refine AO.op (O.eql rfl rfl rfl (by rfl)) rfl rfl rfl ?_
    refine AO.op (O.move rfl rfl) rfl rfl rfl ?_
    refine AO.opG rfl rfl rfl (fun hp => O.fieldAddr rfl rfl) ?_
    refine AO.opG rfl rfl rfl (fun hp => OpW.force 14 rfl (by exact hp) (O.load rfl rfl (by repeat (exact List.Mem.head _)) (by rfl))) ?_
    refine AO.opG rfl rfl rfl (fun hp => OpW.force 15 rfl (by exact hp) (O.not rfl rfl (by rfl))) ?_
    refine AO.op (O.pickAnd rfl rfl rfl rfl (fun h => by exact h)) rfl rfl rfl ?_
    refine AO.op (O.move rfl rfl) rfl rfl rfl ?_
    refine AO.opG rfl rfl rfl (fun hp => O.fieldAddr rfl rfl) ?_
    refine AO.opG rfl rfl rfl (fun hp => OpW.force 19 rfl (by exact hp) (O.load rfl rfl (by repeat (exact List.Mem.head _)) (by rfl))) ?_
    refine AO.opG rfl rfl rfl (fun hp => OpW.force 20 rfl (by exact hp) (O.not rfl rfl (by rfl))) ?_
    refine AO.op (O.pickAnd rfl rfl rfl rfl (fun h => by exact h)) rfl rfl rfl ?_
    refine AO.op (O.move rfl rfl) rfl rfl rfl ?_
    refine AO.opG rfl rfl rfl (fun hp => O.fieldAddr rfl rfl) ?_
    refine AO.opG rfl rfl rfl (fun hp => OpW.force 24 rfl (by exact hp) (O.load rfl rfl (by repeat (exact List.Mem.head _)) (by rfl))) ?_
    refine AO.opG rfl rfl rfl (fun hp => OpW.force 25 rfl (by exact hp) (O.not rfl rfl (by rfl))) ?_
    refine AO.op (O.pickAnd rfl rfl rfl rfl (fun h => by exact h)) rfl rfl rfl ?_
    refine AO.nil ?_
    refine AQ.thenN ?_
    refine AW.split rfl (fun hz => ?_) (fun hz => ?_)
    · skip
      have hz : flg ⟨piv, hk, kid, hc, ctx, g⟩ = 0 := hz0.2 (by simpa [and_assoc] using hz)
      rw [if_pos hz]
      refine AW.seq ?_
      refine AW.region ?_
      refine AO.op (O.assign rfl rfl) rfl rfl rfl ?_
      refine AO.op (O.assign rfl rfl) rfl rfl rfl ?_
      refine AO.nil ?_
      refine AQ.thenN ?_
      refine AW.ret ?_
      refine AQ.thenR ?_
      refine AQ.g ?_
      refine G.nilRo 2 rfl ?_
      refine AQ.u ?_
      try dsimp only [List.map, List.eraseIdx, List.cons_append, List.nil_append]
      refine AQ.ret2 rfl rfl rfl ⟨_, List.nil_sublist _, .nil⟩ (⟨rfl, rfl⟩)
    · skip
      have hz : ¬ flg ⟨piv, hk, kid, hc, ctx, g⟩ = 0 := fun e => by
        obtain ⟨rfl, rfl, rfl, rfl⟩ := hz0.1 e
        simp at hz
      rw [if_neg hz]
      obtain ⟨n, hn⟩ : ∃ n : Int, n = (pivB piv).length := ⟨_, rfl⟩
      refine AW.skip ?_
      refine AQ.thenN ?_
      refine AW.seq ?_
      refine AW.region ?_
      refine AO.op (O.fieldAddr rfl rfl) rfl rfl rfl ?_
      refine AO.op (O.load rfl rfl (by repeat (exact List.Mem.head _)) (by rfl)) rfl rfl rfl ?_
      refine AO.op (O.call rfl Try.func23 rfl rfl rfl (rbytes_fn _)) rfl rfl rfl ?_
      refine AO.op (O.assign rfl rfl) rfl rfl rfl ?_
      refine AO.nil ?_
      refine AQ.thenN ?_
      refine AW.seq ?_
      refine AW.region ?_
      refine AO.op (O.move rfl rfl) rfl rfl rfl ?_
      refine AO.op (O.lenR rfl rfl) rfl rfl rfl ?_
      refine AO.op (O.assign rfl rfl) rfl rfl rfl ?_
      refine AO.nil ?_
      refine AQ.thenN ?_
      refine AW.seq ?_
      refine AW.seq ?_
      refine AW.region ?_
      refine AO.op (O.fieldAddr rfl rfl) rfl rfl rfl ?_
      refine AO.op (O.load rfl rfl (by repeat (exact List.Mem.head _)) (by rfl)) rfl rfl rfl ?_
      refine AO.nil ?_
      refine AQ.thenN ?_
      simp only [← hn]
      refine AW.joinK (True) [(1, _), (4, _)] [(5, .val (.int .i64 (bif hk then n + 8 else n)))] [.blk B 30 6 [.val (.int .i64 piv), .val (.bool hk), roB kid, .val (.bool hc), roB ctx, .val (.bool g)]] rfl (by repeat (first | exact envNil | refine envCons rfl ?_)) (fun hb => ?_) (fun hb => ?_) (fun hj => ?_) <;> try (try simp only [decide_eq_true_eq, decide_eq_false_iff_not, beq_iff_eq, beq_eq_false_iff_ne, bne_iff_ne, bne_eq_false_iff_eq, Bool.not_eq_true', Bool.not_eq_false', Bool.not_eq_true, Bool.not_eq_false, ne_eq, Int.not_lt, Int.not_le, Bool.and_eq_true, Bool.or_eq_true, Bool.or_eq_false_iff, Bool.and_eq_false_imp, strOf_toList, Decidable.not_not] at hb)
      · skip
        subst hb
        refine AW.region ?_
        refine AO.op (O.move rfl rfl) rfl rfl rfl ?_
        refine AO.op (O.add rfl rfl rfl (by exact wI64 (by omega))) rfl rfl rfl ?_
        refine AO.op (O.assign rfl rfl) rfl rfl rfl ?_
        refine AO.nil ?_
        refine AQ.midK (trivial) (by repeat (first | exact envNil | refine envCons rfl ?_)) (by repeat (first | exact envNil | refine envCons rfl ?_)) (by repeat (first | exact subPnil | refine subPcons 0 rfl ?_))
      · skip
        subst hb
        refine AW.skip ?_
        refine AQ.midK (trivial) (by repeat (first | exact envNil | refine envCons rfl ?_)) (by repeat (first | exact envNil | refine envCons rfl ?_)) (by repeat (first | exact subPnil | refine subPcons 0 rfl ?_))
      · dsimp only [List.cons_append, List.nil_append]
        refine AQ.thenN ?_
        obtain ⟨n1, hn1⟩ : ∃ n1 : Int, n1 = bif hk then n + 8 else n := ⟨_, rfl⟩
        have b1 : 0 ≤ n1 ∧ n1 ≤ 13 := by rw [hn1]; cases hk <;> simp <;> omega
        rw [← hn1]
        refine AW.seq ?_
        refine AW.seq ?_
        refine AW.region ?_
        refine AO.op (O.fieldAddr rfl rfl) rfl rfl rfl ?_
        refine AO.op (O.load rfl rfl (by repeat (exact List.Mem.head _)) (by rfl)) rfl rfl rfl ?_
        refine AO.nil ?_
        refine AQ.thenN ?_
        refine AW.joinK (True) [(1, _), (4, _)] [(5, .val (.int .i64 (bif hc then n1 + 16 else n1)))] [.blk B 30 6 [.val (.int .i64 piv), .val (.bool hk), roB kid, .val (.bool hc), roB ctx, .val (.bool g)]] rfl (by repeat (first | exact envNil | refine envCons rfl ?_)) (fun hb => ?_) (fun hb => ?_) (fun hj => ?_) <;> try (try simp only [decide_eq_true_eq, decide_eq_false_iff_not, beq_iff_eq, beq_eq_false_iff_ne, bne_iff_ne, bne_eq_false_iff_eq, Bool.not_eq_true', Bool.not_eq_false', Bool.not_eq_true, Bool.not_eq_false, ne_eq, Int.not_lt, Int.not_le, Bool.and_eq_true, Bool.or_eq_true, Bool.or_eq_false_iff, Bool.and_eq_false_imp, strOf_toList, Decidable.not_not] at hb)
        · skip
          subst hb
          refine AW.region ?_
          refine AO.op (O.move rfl rfl) rfl rfl rfl ?_
          refine AO.op (O.add rfl rfl rfl (by exact wI64 (by omega))) rfl rfl rfl ?_
          refine AO.op (O.assign rfl rfl) rfl rfl rfl ?_
          refine AO.nil ?_
          refine AQ.midK (trivial) (by repeat (first | exact envNil | refine envCons rfl ?_)) (by repeat (first | exact envNil | refine envCons rfl ?_)) (by repeat (first | exact subPnil | refine subPcons 0 rfl ?_))
        · skip
          subst hb
          refine AW.skip ?_
          refine AQ.midK (trivial) (by repeat (first | exact envNil | refine envCons rfl ?_)) (by repeat (first | exact envNil | refine envCons rfl ?_)) (by repeat (first | exact subPnil | refine subPcons 0 rfl ?_))
        · dsimp only [List.cons_append, List.nil_append]
          refine AQ.thenN ?_
          obtain ⟨n2, hn2⟩ : ∃ n2 : Int, n2 = bif hc then n1 + 16 else n1 := ⟨_, rfl⟩
          have b2 : 0 ≤ n2 ∧ n2 ≤ 29 := by rw [hn2]; cases hc <;> simp <;> omega
          rw [← hn2]
          refine AW.seq ?_
          refine AW.seq ?_
          refine AW.region ?_
          refine AO.op (O.fieldAddr rfl rfl) rfl rfl rfl ?_
          refine AO.op (O.load rfl rfl (by repeat (exact List.Mem.head _)) (by rfl)) rfl rfl rfl ?_
          refine AO.nil ?_
          refine AQ.thenN ?_
          refine AW.joinK (True) [(1, _), (4, _)] [(5, .val (.int .i64 (bif g then n2 + 32 else n2)))] [.blk B 30 6 [.val (.int .i64 piv), .val (.bool hk), roB kid, .val (.bool hc), roB ctx, .val (.bool g)]] rfl (by repeat (first | exact envNil | refine envCons rfl ?_)) (fun hb => ?_) (fun hb => ?_) (fun hj => ?_) <;> try (try simp only [decide_eq_true_eq, decide_eq_false_iff_not, beq_iff_eq, beq_eq_false_iff_ne, bne_iff_ne, bne_eq_false_iff_eq, Bool.not_eq_true', Bool.not_eq_false', Bool.not_eq_true, Bool.not_eq_false, ne_eq, Int.not_lt, Int.not_le, Bool.and_eq_true, Bool.or_eq_true, Bool.or_eq_false_iff, Bool.and_eq_false_imp, strOf_toList, Decidable.not_not] at hb)
          · skip
            subst hb
            refine AW.region ?_
            refine AO.op (O.move rfl rfl) rfl rfl rfl ?_
            refine AO.op (O.add rfl rfl rfl (by exact wI64 (by omega))) rfl rfl rfl ?_
            refine AO.op (O.assign rfl rfl) rfl rfl rfl ?_
            refine AO.nil ?_
            refine AQ.midK (trivial) (by repeat (first | exact envNil | refine envCons rfl ?_)) (by repeat (first | exact envNil | refine envCons rfl ?_)) (by repeat (first | exact subPnil | refine subPcons 0 rfl ?_))
          · skip
            subst hb
            refine AW.skip ?_
            refine AQ.midK (trivial) (by repeat (first | exact envNil | refine envCons rfl ?_)) (by repeat (first | exact envNil | refine envCons rfl ?_)) (by repeat (first | exact subPnil | refine subPcons 0 rfl ?_))
          · dsimp only [List.cons_append, List.nil_append]
            refine AQ.thenN ?_
            have hf : (bif g then n2 + 32 else n2) = flg ⟨piv, hk, kid, hc, ctx, g⟩ := by
              rw [hn2, hn1, hn]; unfold flg; cases hk <;> cases hc <;> cases g <;> simp
            rw [hf]
            have e2 : encB ⟨piv, hk, kid, hc, ctx, g⟩ = u8 (flg ⟨piv, hk, kid, hc, ctx, g⟩) :: pivB piv ++ (if hc then u8 ctx.length :: ctx else []) ++ kid := rfl
            rw [e2]
            obtain ⟨f, hfd⟩ : ∃ f, f = flg ⟨piv, hk, kid, hc, ctx, g⟩ := ⟨_, rfl⟩
            rw [← hfd] at hfl ⊢
            refine AW.seq ?_
            refine AW.region ?_
            refine AO.op (O.move rfl rfl) rfl rfl rfl ?_
            refine AO.op (O.conv rfl rfl wU8any) rfl rfl rfl ?_
            refine AO.opB (O.buildSlice rfl rfl rfl (by rfl) (by rfl) (by rfl) (by rfl)) rfl rfl rfl ?_
            intro B
            refine AO.g ?_
            refine G.closeRow (b := B) (n := 1) (cap := 1) 0 rfl rfl rfl (Nat.le_refl _) (by (unfold maxLen; omega)) ?_
            refine AO.u ?_
            dsimp only [List.set]
            refine AO.op (O.move rfl rfl) rfl rfl rfl ?_
            (refine AO.append' (i := 0) rfl rfl rfl rfl (by rfl) (by rfl) rfl rfl rfl (by exact SrcA.ro TyD.ax (by (simp; done)) (Nat.le_of_ble_eq_true rfl)) (by (simp [AV.cells, AV.one, *]; done)) (by (unfold maxLen; omega)) (by omega) (by (dsimp only [List.set, List.append, List.cons_append, List.nil_append, splice, ofConst, AV.cells, List.map, List.map_cons, List.map_nil, List.take, List.drop, Nat.zero_add, Nat.add_zero, Nat.reduceAdd, Nat.reduceMul, Nat.zero_mul, Value.cells, List.toList_toArray, zerosA, List.replicate, List.flatten, List.append_nil]; done)) (fun _ => by (dsimp only [List.set]; done)) ?_)
            intro V hV
            refine AO.op (O.assign rfl rfl) rfl rfl rfl ?_
            refine AO.nil ?_
            refine AQ.thenN ?_
            refine AW.seq ?_
            refine AW.seq ?_
            refine AW.region ?_
            refine AO.op (O.fieldAddr rfl rfl) rfl rfl rfl ?_
            refine AO.op (O.load rfl rfl (by repeat (first | exact List.Mem.head _ | refine List.Mem.tail _ ?_)) (by rfl)) rfl rfl rfl ?_
            refine AO.nil ?_
            refine AQ.thenN ?_
            refine AW.split rfl (fun hb => ?_) (fun hb => ?_)
            · skip
              subst hb
              refine AW.seq ?_
              refine AW.region ?_
              refine AO.op (O.move rfl rfl) rfl rfl rfl ?_
              refine AO.op (O.fieldAddr rfl rfl) rfl rfl rfl ?_
              refine AO.op (O.load rfl rfl (by repeat (first | exact List.Mem.head _ | refine List.Mem.tail _ ?_)) (by rfl)) rfl rfl rfl ?_
              refine AO.op (O.lenR rfl rfl) rfl rfl rfl ?_
              refine AO.op (O.conv rfl rfl wU8any) rfl rfl rfl ?_
              refine AO.opB (O.buildSlice rfl rfl rfl (by rfl) (by rfl) (by rfl) (by rfl)) rfl rfl rfl ?_
              intro B
              refine AO.g ?_
              (refine G.freezeSl 0 57 rfl rfl ⟨Nat.le_refl _, by unfold maxLen; omega⟩ ?_)
              refine G.unfull 57 rfl ?_
              refine AO.u ?_
              dsimp only [List.eraseIdx]
              (refine AO.append' (i := 0) rfl rfl rfl rfl (by rfl) (by rfl) rfl rfl rfl (by exact SrcA.ro TyD.ax (by rfl) (Nat.le_of_ble_eq_true rfl)) (by rfl) (by (unfold maxLen; omega)) (by omega) (by (dsimp only [List.set, List.append, List.cons_append, List.nil_append, splice, ofConst, AV.cells, List.map, List.map_cons, List.map_nil, List.take, List.drop, Nat.zero_add, Nat.add_zero, Nat.reduceAdd, Nat.reduceMul, Nat.zero_mul, Value.cells, List.toList_toArray, zerosA, List.replicate, List.flatten, List.append_nil]; done)) (fun _ => by (dsimp only [List.set]; done)) ?_)
              intro V hV
              refine AO.op (O.assign rfl rfl) rfl rfl rfl ?_
              refine AO.nil ?_
              refine AQ.thenN ?_
              refine AW.region ?_
              refine AO.op (O.move rfl rfl) rfl rfl rfl ?_
              refine AO.op (O.fieldAddr rfl rfl) rfl rfl rfl ?_
              refine AO.op (O.load rfl rfl (by repeat (first | exact List.Mem.head _ | refine List.Mem.tail _ ?_)) (by rfl)) rfl rfl rfl ?_
              (refine AO.append' (i := 0) rfl rfl rfl rfl (by rfl) (by rfl) rfl rfl rfl (by exact SrcA.ro TyD.ax (by (simp; done)) (Nat.le_of_ble_eq_true rfl)) (by (simp [AV.cells, AV.one, *]; done)) (by (unfold maxLen; omega)) (by omega) (by (dsimp only [List.set, List.append, List.cons_append, List.nil_append, splice, ofConst, AV.cells, List.map, List.map_cons, List.map_nil, List.take, List.drop, Nat.zero_add, Nat.add_zero, Nat.reduceAdd, Nat.reduceMul, Nat.zero_mul, Value.cells, List.toList_toArray, zerosA, List.replicate, List.flatten, List.append_nil]; done)) (fun _ => by (dsimp only [List.set]; done)) ?_)
              intro V hV
              refine AO.op (O.assign rfl rfl) rfl rfl rfl ?_
              refine AO.nil ?_
              refine AQ.thenN ?_
              refine AW.seq ?_
              refine AW.region ?_
              refine AO.op (O.move rfl rfl) rfl rfl rfl ?_
              refine AO.op (O.fieldAddr rfl rfl) rfl rfl rfl ?_
              refine AO.op (O.load rfl rfl (by repeat (first | exact List.Mem.head _ | refine List.Mem.tail _ ?_)) (by rfl)) rfl rfl rfl ?_
              (refine AO.append' (i := 0) rfl rfl rfl rfl (by rfl) (by rfl) rfl rfl rfl (by exact SrcA.ro TyD.ax (by (simp; done)) (Nat.le_of_ble_eq_true rfl)) (by (simp [AV.cells, AV.one, *]; done)) (by (unfold maxLen; omega)) (by omega) (by (dsimp only [List.set, List.append, List.cons_append, List.nil_append, splice, ofConst, AV.cells, List.map, List.map_cons, List.map_nil, List.take, List.drop, Nat.zero_add, Nat.add_zero, Nat.reduceAdd, Nat.reduceMul, Nat.zero_mul, Value.cells, List.toList_toArray, zerosA, List.replicate, List.flatten, List.append_nil]; done)) (fun _ => by (dsimp only [List.set]; done)) ?_)
              intro V hV
              refine AO.op (O.assign rfl rfl) rfl rfl rfl ?_
              refine AO.op (O.assign rfl rfl) rfl rfl rfl ?_
              refine AO.nil ?_
              refine AQ.thenN ?_
              refine AW.ret ?_
              refine AQ.g ?_
              refine G.freezeRow 0 rfl [2] (by repeat (first | exact frNil | refine frCons rfl ?_)) ?_
              refine AQ.u ?_
              try dsimp only [List.map, List.eraseIdx, List.cons_append, List.nil_append]
              refine AQ.ret2 rfl rfl rfl ⟨_, List.nil_sublist _, .nil⟩ (⟨congrArg (fun z => AV.tup [z, .val (.int .i64 0)]) (roB_of (by simp; omega) (by simp [bytesA])), rfl⟩)
            · skip
              subst hb
              refine AW.skip ?_
              refine AQ.thenN ?_
              refine AW.seq ?_
              refine AW.region ?_
              refine AO.op (O.move rfl rfl) rfl rfl rfl ?_
              refine AO.op (O.fieldAddr rfl rfl) rfl rfl rfl ?_
              refine AO.op (O.load rfl rfl (by repeat (first | exact List.Mem.head _ | refine List.Mem.tail _ ?_)) (by rfl)) rfl rfl rfl ?_
              (refine AO.append' (i := 0) rfl rfl rfl rfl (by rfl) (by rfl) rfl rfl rfl (by exact SrcA.ro TyD.ax (by (simp; done)) (Nat.le_of_ble_eq_true rfl)) (by (simp [AV.cells, AV.one, *]; done)) (by (unfold maxLen; omega)) (by omega) (by (dsimp only [List.set, List.append, List.cons_append, List.nil_append, splice, ofConst, AV.cells, List.map, List.map_cons, List.map_nil, List.take, List.drop, Nat.zero_add, Nat.add_zero, Nat.reduceAdd, Nat.reduceMul, Nat.zero_mul, Value.cells, List.toList_toArray, zerosA, List.replicate, List.flatten, List.append_nil]; done)) (fun _ => by (dsimp only [List.set]; done)) ?_)
              intro V hV
              refine AO.op (O.assign rfl rfl) rfl rfl rfl ?_
              refine AO.op (O.assign rfl rfl) rfl rfl rfl ?_
              refine AO.nil ?_
              refine AQ.thenN ?_
              refine AW.ret ?_
              refine AQ.g ?_
              refine G.freezeRow 0 rfl [2] (by repeat (first | exact frNil | refine frCons rfl ?_)) ?_
              refine AQ.u ?_
              try dsimp only [List.map, List.eraseIdx, List.cons_append, List.nil_append]
              refine AQ.ret2 rfl rfl rfl ⟨_, List.nil_sublist _, .nil⟩ (⟨congrArg (fun z => AV.tup [z, .val (.int .i64 0)]) (roB_of (by simp; omega) (by simp [bytesA])), rfl⟩)

theorem csize_fn (c : Cmp) : Sp Try.prog 21 [aggC c] [] (Is (.val (.int .i64 (encC c).1.length))) := by
  obtain ⟨piv, hk, kid, hc, ctx, g⟩ := c
  refine Sp.enter Try.func21 rfl _ Try.ntmps21 rfl (fun w0 R0 => ?_)
  refine AW.seq ?_
  refine AW.region ?_
  refine AO.opB (O.box rfl rfl rfl rfl rfl) rfl rfl rfl ?_
  intro B
  refine AO.op (O.assign rfl rfl) rfl rfl rfl ?_
  refine AO.nil ?_
  refine AQ.thenN ?_
  refine AW.seq ?_
  refine AW.region ?_
  (refine AO.op (O.loadK rfl rfl (by repeat (exact List.Mem.head _)) (by (dsimp only [List.set, List.append, List.cons_append, List.nil_append, splice, ofConst, AV.cells, List.map, List.map_cons, List.map_nil, List.take, List.drop, Nat.zero_add, Nat.add_zero, Nat.reduceAdd, Nat.reduceMul, Nat.zero_mul, Value.cells, List.toList_toArray, zerosA, List.replicate, List.flatten, List.append_nil]; done)) (by rfl)) rfl rfl rfl ?_)
  refine AO.op (O.call rfl Try.func17 rfl rfl rfl (cencode_fn ⟨_, _, _, _, _, _⟩)) rfl rfl rfl ?_
  refine AO.op (O.move rfl rfl) rfl rfl rfl ?_
  refine AO.op (O.extract rfl rfl rfl) rfl rfl rfl ?_
  refine AO.op (O.extract rfl rfl rfl) rfl rfl rfl ?_
  refine AO.op (O.assign rfl rfl) rfl rfl rfl ?_
  refine AO.op (O.assign rfl rfl) rfl rfl rfl ?_
  refine AO.nil ?_
  refine AQ.thenN ?_
  refine AW.seq ?_
  refine AW.region ?_
  refine AO.op (O.move rfl rfl) rfl rfl rfl ?_
  refine AO.op (O.lenR rfl rfl) rfl rfl rfl ?_
  refine AO.op (O.assign rfl rfl) rfl rfl rfl ?_
  refine AO.nil ?_
  refine AQ.thenN ?_
  refine AW.ret ?_
  refine AQ.ret1 rfl rfl ⟨_, List.nil_sublist _, .nil⟩ (⟨rfl, rfl⟩)
theorem rcsize_fn (c : Cmp) : Sp Try.prog 22 [aggC c] [] (Is (.val (.int .i64 (encC c).1.length))) := by
  obtain ⟨piv, hk, kid, hc, ctx, g⟩ := c
  refine Sp.enter Try.func22 rfl _ Try.ntmps22 rfl (fun w0 R0 => ?_)
  refine AW.seq ?_
  refine AW.region ?_
  refine AO.opB (O.box rfl rfl rfl rfl rfl) rfl rfl rfl ?_
  intro B
  refine AO.op (O.assign rfl rfl) rfl rfl rfl ?_
  refine AO.nil ?_
  refine AQ.thenN ?_
  refine AW.seq ?_
  refine AW.region ?_
  (refine AO.op (O.loadK rfl rfl (by repeat (exact List.Mem.head _)) (by (dsimp only [List.set, List.append, List.cons_append, List.nil_append, splice, ofConst, AV.cells, List.map, List.map_cons, List.map_nil, List.take, List.drop, Nat.zero_add, Nat.add_zero, Nat.reduceAdd, Nat.reduceMul, Nat.zero_mul, Value.cells, List.toList_toArray, zerosA, List.replicate, List.flatten, List.append_nil]; done)) (by rfl)) rfl rfl rfl ?_)
  refine AO.op (O.call rfl Try.func8 rfl rfl rfl (rcencode_fn ⟨_, _, _, _, _, _⟩)) rfl rfl rfl ?_
  refine AO.op (O.move rfl rfl) rfl rfl rfl ?_
  refine AO.op (O.extract rfl rfl rfl) rfl rfl rfl ?_
  refine AO.op (O.extract rfl rfl rfl) rfl rfl rfl ?_
  refine AO.op (O.assign rfl rfl) rfl rfl rfl ?_
  refine AO.op (O.assign rfl rfl) rfl rfl rfl ?_
  refine AO.nil ?_
  refine AQ.thenN ?_
  refine AW.seq ?_
  refine AW.region ?_
  refine AO.op (O.move rfl rfl) rfl rfl rfl ?_
  refine AO.op (O.lenR rfl rfl) rfl rfl rfl ?_
  refine AO.op (O.assign rfl rfl) rfl rfl rfl ?_
  refine AO.nil ?_
  refine AQ.thenN ?_
  refine AW.ret ?_
  refine AQ.ret1 rfl rfl ⟨_, List.nil_sublist _, .nil⟩ (⟨rfl, rfl⟩)
set_option maxHeartbeats 1000000 in
theorem csame_fn (a b : Cmp) : Sp Try.prog 15 [aggC a, aggC b] [] (Is (.val (.bool (decide (a = b))))) := by
  obtain ⟨p, hk, kid, hc, ctx, g⟩ := a
  obtain ⟨p', hk', kid', hc', ctx', g'⟩ := b
  refine Sp.enter Try.func15 rfl _ Try.ntmps15 rfl (fun w0 R0 => ?_)
  refine AW.seq ?_
  refine AW.region ?_
  refine AO.opB (O.box rfl rfl rfl rfl rfl) rfl rfl rfl ?_
  intro B
  refine AO.opB (O.box rfl rfl rfl rfl rfl) rfl rfl rfl ?_
  intro B
  refine AO.op (O.assign rfl rfl) rfl rfl rfl ?_
  refine AO.nil ?_
  refine AQ.thenN ?_
  refine AW.seq ?_
  refine AW.region ?_
  refine AO.op (O.fieldAddr rfl rfl) rfl rfl rfl ?_
  refine AO.op (O.load rfl rfl (by repeat (first | exact List.Mem.head _ | refine List.Mem.tail _ ?_)) (by rfl)) rfl rfl rfl ?_
  refine AO.op (O.fieldAddr rfl rfl) rfl rfl rfl ?_
  refine AO.op (O.load rfl rfl (by repeat (exact List.Mem.head _)) (by rfl)) rfl rfl rfl ?_
  refine AO.op (O.eql rfl rfl rfl (by rfl)) rfl rfl rfl ?_
  refine AO.op (O.move rfl rfl) rfl rfl rfl ?_
  refine AO.opG rfl rfl rfl (fun hp => O.fieldAddr rfl rfl) ?_
  refine AO.opG rfl rfl rfl (fun hp => OpW.force 11 rfl (by exact hp) (O.load rfl rfl (by repeat (first | exact List.Mem.head _ | refine List.Mem.tail _ ?_)) (by rfl))) ?_
  refine AO.opG rfl rfl rfl (fun hp => O.fieldAddr rfl rfl) ?_
  refine AO.opG rfl rfl rfl (fun hp => OpW.force 13 rfl (by exact hp) (O.load rfl rfl (by repeat (exact List.Mem.head _)) (by rfl))) ?_
  refine AO.opG rfl rfl rfl (fun hp => OpW.force 12 rfl (by exact hp) (OpW.force 14 rfl (by exact hp) (O.eqlB rfl rfl rfl (by rfl)))) ?_
  refine AO.op (O.pickAnd rfl rfl rfl rfl (fun h => by exact h)) rfl rfl rfl ?_
  refine AO.op (O.move rfl rfl) rfl rfl rfl ?_
  refine AO.opG rfl rfl rfl (fun hp => O.fieldAddr rfl rfl) ?_
  refine AO.opG rfl rfl rfl (fun hp => OpW.force 18 rfl (by exact hp) (O.load rfl rfl (by repeat (first | exact List.Mem.head _ | refine List.Mem.tail _ ?_)) (by rfl))) ?_
  refine AO.opG rfl rfl rfl (fun hp => O.fieldAddr rfl rfl) ?_
  refine AO.opG rfl rfl rfl (fun hp => OpW.force 20 rfl (by exact hp) (O.load rfl rfl (by repeat (exact List.Mem.head _)) (by rfl))) ?_
  refine AO.opG rfl rfl rfl (fun hp => OpW.force 19 rfl (by exact hp) (OpW.force 21 rfl (by exact hp) (O.call rfl Try.func18 rfl rfl rfl (equal26_fn _ _)))) ?_
  refine AO.op (O.pickAnd rfl rfl rfl rfl (fun h => by exact h)) rfl rfl rfl ?_
  refine AO.op (O.move rfl rfl) rfl rfl rfl ?_
  refine AO.opG rfl rfl rfl (fun hp => O.fieldAddr rfl rfl) ?_
  refine AO.opG rfl rfl rfl (fun hp => OpW.force 25 rfl (by exact hp) (O.load rfl rfl (by repeat (first | exact List.Mem.head _ | refine List.Mem.tail _ ?_)) (by rfl))) ?_
  refine AO.opG rfl rfl rfl (fun hp => O.fieldAddr rfl rfl) ?_
  refine AO.opG rfl rfl rfl (fun hp => OpW.force 27 rfl (by exact hp) (O.load rfl rfl (by repeat (exact List.Mem.head _)) (by rfl))) ?_
  refine AO.opG rfl rfl rfl (fun hp => OpW.force 26 rfl (by exact hp) (OpW.force 28 rfl (by exact hp) (O.eqlB rfl rfl rfl (by rfl)))) ?_
  refine AO.op (O.pickAnd rfl rfl rfl rfl (fun h => by exact h)) rfl rfl rfl ?_
  refine AO.op (O.move rfl rfl) rfl rfl rfl ?_
  refine AO.opG rfl rfl rfl (fun hp => O.fieldAddr rfl rfl) ?_
  refine AO.opG rfl rfl rfl (fun hp => OpW.force 32 rfl (by exact hp) (O.load rfl rfl (by repeat (first | exact List.Mem.head _ | refine List.Mem.tail _ ?_)) (by rfl))) ?_
  refine AO.opG rfl rfl rfl (fun hp => O.fieldAddr rfl rfl) ?_
  refine AO.opG rfl rfl rfl (fun hp => OpW.force 34 rfl (by exact hp) (O.load rfl rfl (by repeat (exact List.Mem.head _)) (by rfl))) ?_
  refine AO.opG rfl rfl rfl (fun hp => OpW.force 33 rfl (by exact hp) (OpW.force 35 rfl (by exact hp) (O.call rfl Try.func18 rfl rfl rfl (equal26_fn _ _)))) ?_
  refine AO.op (O.pickAnd rfl rfl rfl rfl (fun h => by exact h)) rfl rfl rfl ?_
  refine AO.op (O.move rfl rfl) rfl rfl rfl ?_
  refine AO.opG rfl rfl rfl (fun hp => O.fieldAddr rfl rfl) ?_
  refine AO.opG rfl rfl rfl (fun hp => OpW.force 39 rfl (by exact hp) (O.load rfl rfl (by repeat (first | exact List.Mem.head _ | refine List.Mem.tail _ ?_)) (by rfl))) ?_
  refine AO.opG rfl rfl rfl (fun hp => O.fieldAddr rfl rfl) ?_
  refine AO.opG rfl rfl rfl (fun hp => OpW.force 41 rfl (by exact hp) (O.load rfl rfl (by repeat (exact List.Mem.head _)) (by rfl))) ?_
  refine AO.opG rfl rfl rfl (fun hp => OpW.force 40 rfl (by exact hp) (OpW.force 42 rfl (by exact hp) (O.eqlB rfl rfl rfl (by rfl)))) ?_
  refine AO.op (O.pickAnd rfl rfl rfl rfl (fun h => by exact h)) rfl rfl rfl ?_
  refine AO.op (O.assign rfl rfl) rfl rfl rfl ?_
  refine AO.nil ?_
  refine AQ.thenN ?_
  refine AW.ret ?_
  have e : decide ((⟨p, hk, kid, hc, ctx, g⟩ : Cmp) = ⟨p', hk', kid', hc', ctx', g'⟩) = ((p == p') && (hk == hk') && (kid == kid') && (hc == hc') && (ctx == ctx') && (g == g')) := by
    refine dec_eq ?_
    simp only [Cmp.mk.injEq, Bool.and_eq_true, beq_iff_eq, and_assoc]
  refine AQ.ret1 rfl rfl ⟨_, List.nil_sublist _, .nil⟩ (⟨congrArg (fun z => AV.val (.bool z)) e.symm, rfl⟩)
end Go.Proofs.Ytbkclbbhdeohfaa.By
