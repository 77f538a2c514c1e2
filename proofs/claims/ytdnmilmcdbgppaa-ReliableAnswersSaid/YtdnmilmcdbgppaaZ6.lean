/-
  ReliableAnswers, the statement: for every input the law returns true, and its arguments read as before. No condition.
-/
import Derived.SizedLaws
import Derived.Test.YtdnmilmcdbgppaaZ5
namespace Go.Proofs.Ytdnmilmcdbgppaa.By
open Go.RowKit L A Dk
set_option linter.unusedVariables false
set_option maxRecDepth 20000
set_option linter.unusedSimpArgs false
attribute [local irreducible] AW AQ AO
theorem answerR_cmp (e : Ep) (p id : Int) (m : Msg) (now : Int) : CmpE (answerR e p id m now).1 ∧ (answerR e p id m now).2.1.opts.length ≤ 140737488355328 := ⟨(answerR_tiny e p id m now).1.cmp, (answerR_tiny e p id m now).2.op⟩
theorem intsA_snoc (a : List Int) (z : Int) : intsA .i64 (a ++ [z]) = intsA .i64 a ++ [.val (.int .i64 z)] := by simp [intsA]
set_option maxHeartbeats 8000000 in
theorem lawAnswers_fn (raw : Ep) (l : List Int) (w y peer id now : Int) (m : Msg) (hraw : BdE raw) (hm : m.opts.length ≤ 20 → SmM m) (hl : l.length ≤ maxLen) (hy : -9223372036854775808 ≤ y ∧ y ≤ 9223372036854775807) : Sp Try.prog 8 [aggE raw, roI l, .val (.int .i64 w), .val (.int .i64 y), .val (.int .i64 peer), .val (.int .i64 id), .val (.int .i64 now), aggM m] [] (Is (.val (.bool true))) := by
  refine Sp.enter Try.func8 rfl _ Try.ntmps8 rfl (fun w0 R0 => ?_)
  refine AW.seq ?_
  refine AW.region ?_
  refine AO.opB (O.box rfl rfl rfl rfl rfl) rfl rfl rfl ?_
  intro B1
  refine AO.opB (O.box rfl rfl rfl rfl rfl) rfl rfl rfl ?_
  intro B2
  refine AO.op (O.assign rfl rfl) rfl rfl rfl ?_
  refine AO.nil ?_
  refine AQ.thenN ?_
  refine AW.seq ?_
  refine AW.seq ?_
  refine AW.region ?_
  (refine AO.op (O.loadK rfl rfl (by repeat (first | exact List.Mem.head _ | refine List.Mem.tail _ ?_)) (by (dsimp only [List.set, List.cons_append, List.nil_append, List.take, List.drop]; done)) (by rfl)) rfl rfl rfl ?_)
  refine AO.op (O.call rfl Try.func10 rfl rfl rfl (light17_fn raw hraw)) rfl rfl rfl ?_
  refine AO.op (O.not rfl rfl (by rfl)) rfl rfl rfl ?_
  refine AO.op (O.move rfl rfl) rfl rfl rfl ?_
  refine AO.opG rfl rfl rfl (fun hp => O.fieldAddr rfl rfl) ?_
  refine AO.opG rfl rfl rfl (fun hp => OpW.force 38 rfl (by exact hp) (O.load rfl rfl (by repeat (exact List.Mem.head _)) (by rfl))) ?_
  refine AO.opG rfl rfl rfl (fun hp => OpW.force 39 rfl (by exact hp) (O.lenR rfl rfl)) ?_
  refine AO.opG rfl rfl rfl (fun hp => OpW.force 40 rfl (by exact hp) (O.gtr rfl rfl rfl (by rfl))) ?_
  refine AO.op (O.pickOr rfl rfl rfl rfl (fun h => by exact congrArg (fun b => !b) h)) rfl rfl rfl ?_
  refine AO.nil ?_
  refine AQ.thenN ?_
  refine AW.split rfl (fun h => ?_) (fun h => ?_) <;> (try simp only [decide_eq_true_eq, decide_eq_false_iff_not, beq_iff_eq, beq_eq_false_iff_ne, bne_iff_ne, bne_eq_false_iff_eq, Bool.not_eq_true', Bool.not_eq_false', Bool.not_eq_true, Bool.not_eq_false, ne_eq, Int.not_lt, Int.not_le, Bool.and_eq_true, Bool.or_eq_true, Bool.or_eq_false_iff, Bool.and_eq_false_imp, strOf_toList, Decidable.not_not] at h)
  · skip
    refine AW.seq ?_
    refine AW.region ?_
    refine AO.op (O.call rfl Try.func11 rfl rfl rfl (awake17_fn)) rfl rfl rfl ?_
    refine AO.op (O.assign rfl rfl) rfl rfl rfl ?_
    refine AO.nil ?_
    refine AQ.thenN ?_
    refine AW.ret ?_
    refine AQ.thenR ?_
    refine AQ.ret1 rfl rfl ⟨_, List.nil_sublist _, .nil⟩ (⟨rfl, rfl⟩)
  · skip
    have hro : raw.out.length ≤ 1000 ∧ raw.inn.length ≤ 1000 := by obtain ⟨⟨⟨h1, h2, h3⟩, -⟩, -⟩ := h; omega
    have hmm : SmM m := hm (by omega)
    refine AW.skip ?_
    refine AQ.thenN ?_
    refine AW.seq ?_
    refine AW.region ?_
    (refine AO.op (O.loadK rfl rfl (by repeat (first | exact List.Mem.head _ | refine List.Mem.tail _ ?_)) (by (dsimp only [List.set, List.cons_append, List.nil_append, List.take, List.drop]; done)) (by rfl)) rfl rfl rfl ?_)
    refine AO.op (O.move rfl rfl) rfl rfl rfl ?_
    refine AO.op (O.move rfl rfl) rfl rfl rfl ?_
    refine AO.op (O.move rfl rfl) rfl rfl rfl ?_
    refine AO.op (O.move rfl rfl) rfl rfl rfl ?_
    refine AO.opN (O.call rfl Try.func14 rfl rfl rfl (all_any raw l w y now hraw hro hl hy)) rfl rfl rfl ?_
    rintro _ _ ⟨⟨es3, ts3, hel3, htl3, heb3, rfl⟩, rfl⟩
    simp only [List.cons_append, List.nil_append]
    refine AO.op (O.move rfl rfl) rfl rfl rfl ?_
    refine AO.op (O.extract rfl rfl rfl) rfl rfl rfl ?_
    refine AO.op (O.extract rfl rfl rfl) rfl rfl rfl ?_
    refine AO.op (O.assign rfl rfl) rfl rfl rfl ?_
    refine AO.op (O.assign rfl rfl) rfl rfl rfl ?_
    refine AO.nil ?_
    refine AQ.thenN ?_
    refine AW.seq ?_
    refine AW.seq ?_
    refine AW.region ?_
    refine AO.op (O.move rfl rfl) rfl rfl rfl ?_
    refine AO.op (O.lenR rfl rfl) rfl rfl rfl ?_
    refine AO.op (O.move rfl rfl) rfl rfl rfl ?_
    refine AO.nil ?_
    refine AQ.thenN ?_
    refine AW.block ?_
    refine AW.loopK [(4, _), (5, _), (15, _), (18, _), (53, _), (54, _)] (fun nn E H => ∃ (k : Nat), (k ≤ 5) ∧ nn = 5 - k ∧ E = [(55, .val (.int .i64 (k : Int)))] ∧ H = [.blk B2 31 6 [.val (.int .i64 m.ty), .val (.int .i64 m.code), .val (.int .i64 m.id), roB m.tok, roO m.opts, roB m.pay]]) _ (⟨0, by omega, rfl, rfl, rfl⟩) (by repeat (first | exact envNil | refine envCons rfl ?_)) (by repeat (first | exact envNil | refine envCons rfl ?_)) (by repeat (first | exact subPnil | refine subPcons 0 rfl ?_)) ?_
    rintro nn E H ⟨k, hk1, rfl, rfl, rfl⟩
    dsimp only [List.cons_append, List.nil_append]
    refine AW.seq ?_
    refine AW.region ?_
    refine AO.op (O.lss rfl rfl rfl (by rfl)) rfl rfl rfl ?_
    refine AO.nil ?_
    refine AQ.thenN ?_
    refine AW.seq ?_
    refine AW.split rfl (fun hlt => ?_) (fun hlt => ?_) <;> (try simp only [decide_eq_true_eq, decide_eq_false_iff_not, beq_iff_eq, beq_eq_false_iff_ne, bne_iff_ne, bne_eq_false_iff_eq, Bool.not_eq_true', Bool.not_eq_false', Bool.not_eq_true, Bool.not_eq_false, ne_eq, Int.not_lt, Int.not_le, Bool.and_eq_true, Bool.or_eq_true, Bool.or_eq_false_iff, Bool.and_eq_false_imp, strOf_toList, Decidable.not_not] at hlt)
    · skip
      have hk : k < es3.length := by omega
      have hgw := getE hk (j := Int.toNat (k : Int)) (by omega)
      have hbd := (heb3 _ (getD_mem Ep.none hk)).1
      have hei := (heb3 _ (getD_mem Ep.none hk)).2.2
      obtain ⟨e, he⟩ : ∃ e, e = ep es3 k := ⟨_, rfl⟩
      rw [← he] at hgw
      replace hbd : BdE e := by rw [he]; exact hbd
      replace hei : e.inn.length ≤ 1000 := by rw [he]; exact hei
      refine AW.skip ?_
      refine AQ.thenN ?_
      refine AW.seq ?_
      refine AW.block ?_
      refine AW.seq ?_
      refine AW.region ?_
      refine AO.op (O.move rfl rfl) rfl rfl rfl ?_
      refine AO.op (O.idxR rfl rfl rfl ⟨(by omega), (by omega)⟩) rfl rfl rfl ?_
      refine AO.op (O.loadRK rfl rfl (by exact hgw) (by rfl)) rfl rfl rfl ?_
      refine AO.opB (O.alloc rfl (by (dsimp only [zerosA, List.replicate, List.append, List.flatten, AV.cells, Value.cells, List.toList_toArray, List.map]; done)) (by rfl)) rfl rfl rfl ?_
      intro B4
      refine AO.op (O.assign rfl rfl) rfl rfl rfl ?_
      (refine AO.store (i := 0) rfl rfl rfl rfl rfl rfl (by rfl) (by rfl) (by rfl) (by (dsimp only [List.set, List.cons_append, List.nil_append, List.take, List.drop]; done)) (by (dsimp only [List.set, List.cons_append, List.nil_append, List.take, List.drop]; done)) ?_)
      refine AO.nil ?_
      refine AQ.thenN ?_
      refine AW.seq ?_
      refine AW.region ?_
      refine AO.op (O.move rfl rfl) rfl rfl rfl ?_
      refine AO.op (O.move rfl rfl) rfl rfl rfl ?_
      refine AO.op (O.call rfl Try.func17 rfl rfl rfl (Dk.mod_fn _ _ (by omega) (by omega))) rfl rfl rfl ?_
      refine AO.opB (O.buildSliceF rfl rfl rfl (by rfl) (by rfl) (by rfl) (by rfl) (by rfl)) rfl rfl rfl ?_
      intro B5
      refine AO.g ?_
      refine G.closeRow (b := B5) (n := 2) (cap := 2) 0 rfl rfl rfl (Nat.le_refl _) (by (unfold maxLen; omega)) ?_
      refine AO.u ?_
      dsimp only [List.set]
      refine AO.op (O.assign rfl rfl) rfl rfl rfl ?_
      refine AO.nil ?_
      refine AQ.thenN ?_
      refine AW.seq ?_
      refine AW.seq ?_
      refine AW.region ?_
      refine AO.op (O.fieldAddr rfl rfl) rfl rfl rfl ?_
      refine AO.op (O.load rfl rfl (by repeat (first | exact List.Mem.head _ | refine List.Mem.tail _ ?_)) (by rfl)) rfl rfl rfl ?_
      refine AO.op (O.lenR rfl rfl) rfl rfl rfl ?_
      refine AO.op (O.move rfl rfl) rfl rfl rfl ?_
      refine AO.nil ?_
      refine AQ.thenN ?_
      refine AW.block ?_
      refine AW.loopK [(4, _), (5, _), (15, _), (18, _), (19, _), (20, _), (53, _), (54, _), (55, _), (65, _), (66, _)] (fun nn E H => ∃ (i : Nat) (ids : List Int) (V : Value), (i ≤ e.inn.length) ∧ (ids.length = 2 + i) ∧ (V.oneCell' = true) ∧ nn = e.inn.length - i ∧ E = [(21, .val V), (67, .val (.int .i64 (i : Int)))] ∧ H = [.row V 3 1 ids.length (intsA .i64 ids), .blk B4 26 4 [.val (.int .i64 e.next), roW e.out, roU e.used, roH e.inn], .blk B2 31 6 [.val (.int .i64 m.ty), .val (.int .i64 m.code), .val (.int .i64 m.id), roB m.tok, roO m.opts, roB m.pay]]) _ (⟨0, [id, id % 16], .slice (some ⟨B5, 0, none⟩) 2 2, by omega, rfl, rfl, rfl, rfl, rfl⟩) (by repeat (first | exact envNil | refine envCons rfl ?_)) (by repeat (first | exact envNil | refine envCons rfl ?_)) (by repeat (first | exact subPnil | refine subPcons 0 rfl ?_)) ?_
      rintro nn E H ⟨i, ids, V, hi, hids, hV, rfl, rfl, rfl⟩
      dsimp only [List.cons_append, List.nil_append]
      refine AW.seq ?_
      refine AW.region ?_
      refine AO.op (O.lss rfl rfl rfl (by rfl)) rfl rfl rfl ?_
      refine AO.nil ?_
      refine AQ.thenN ?_
      refine AW.seq ?_
      refine AW.split rfl (fun hlt2 => ?_) (fun hlt2 => ?_) <;> (try simp only [decide_eq_true_eq, decide_eq_false_iff_not, beq_iff_eq, beq_eq_false_iff_ne, bne_iff_ne, bne_eq_false_iff_eq, Bool.not_eq_true', Bool.not_eq_false', Bool.not_eq_true, Bool.not_eq_false, ne_eq, Int.not_lt, Int.not_le, Bool.and_eq_true, Bool.or_eq_true, Bool.or_eq_false_iff, Bool.and_eq_false_imp, strOf_toList, Decidable.not_not] at hlt2)
      · skip
        refine AW.skip ?_
        refine AQ.thenN ?_
        refine AW.seq ?_
        refine AW.block ?_
        refine AW.seq ?_
        refine AW.region ?_
        refine AO.op (O.idxR rfl rfl rfl ⟨(by omega), (by omega)⟩) rfl rfl rfl ?_
        refine AO.op (O.loadRK rfl rfl (by exact getH (k := i) (by omega) (by omega)) (by rfl)) rfl rfl rfl ?_
        refine AO.opB (O.alloc rfl (by (dsimp only [zerosA, List.replicate, List.append, List.flatten, AV.cells, Value.cells, List.toList_toArray, List.map]; done)) (by rfl)) rfl rfl rfl ?_
        intro B6
        (refine AO.store (i := 0) rfl rfl rfl rfl rfl rfl (by rfl) (by rfl) (by rfl) (by (dsimp only [List.set, List.cons_append, List.nil_append, List.take, List.drop]; done)) (by (dsimp only [List.set, List.cons_append, List.nil_append, List.take, List.drop]; done)) ?_)
        refine AO.nil ?_
        refine AQ.thenN ?_
        refine AW.region ?_
        refine AO.op (O.move rfl rfl) rfl rfl rfl ?_
        refine AO.op (O.fieldAddr rfl rfl) rfl rfl rfl ?_
        refine AO.op (O.load rfl rfl (by repeat (exact List.Mem.head _)) (by rfl)) rfl rfl rfl ?_
        refine AO.opB (O.buildSlice rfl rfl rfl (by rfl) (by rfl) (by rfl) (by rfl)) rfl rfl rfl ?_
        intro B7
        refine AO.g ?_
        (refine G.freezeSl 0 74 rfl rfl ⟨Nat.le_refl _, by unfold maxLen; omega⟩ ?_)
        refine G.unfull 74 rfl ?_
        refine AO.u ?_
        dsimp only [List.eraseIdx]
        (refine AO.append' (i := 1) rfl rfl rfl rfl (by rfl) (by rfl) rfl rfl rfl (by exact SrcA.ro TyD.ax (by rfl) (Nat.le_of_ble_eq_true rfl)) (by rfl) (by (unfold maxLen; omega)) (by omega) (by (dsimp only [List.set, List.cons_append, List.nil_append, List.take, List.drop]; done)) (fun _ => by (dsimp only [List.set]; done)) ?_)
        intro V8 hV8
        refine AO.op (O.assign rfl rfl) rfl rfl rfl ?_
        refine AO.nil ?_
        refine AQ.blockN ?_
        refine AQ.thenN ?_
        refine AW.region ?_
        refine AO.op (O.add rfl rfl rfl (by exact wI64 (by omega))) rfl rfl rfl ?_
        refine AO.op (O.move rfl rfl) rfl rfl rfl ?_
        refine AO.nil ?_
        refine AQ.loopKN _ _ _ (by omega) (⟨i + 1, ids ++ [(hd e.inn i).id], _, by omega, (by rw [List.length_append, hids]; rfl), ‹_›, rfl, rfl, by rw [intsA_snoc, List.length_append]⟩) (by repeat (first | exact envNil | refine envCons rfl ?_)) (by repeat (first | exact envNil | refine envCons rfl ?_)) (by repeat (first | exact subPnil | refine subPcons 1 rfl ?_))
      · skip
        obtain rfl : i = e.inn.length := by omega
        refine AW.g ?_
        refine G.freezeRow 0 rfl [21] (by repeat (first | exact frNil | refine frCons rfl ?_)) ?_
        refine AW.u ?_
        try dsimp only [List.map, List.eraseIdx, List.cons_append, List.nil_append]
        refine AW.exit ?_
        refine AQ.thenX ?_
        refine AQ.loopX ?_
        refine AQ.blockX rfl ?_
        refine AQ.thenN ?_
        refine AW.seq ?_
        refine AW.region ?_
        refine AO.op (O.loadK rfl rfl (by repeat (first | exact List.Mem.head _ | refine List.Mem.tail _ ?_)) (by rfl) (by rfl)) rfl rfl rfl ?_
        refine AO.op (O.build rfl rfl rfl (by rfl)) rfl rfl rfl ?_
        refine AO.op (O.build rfl rfl rfl (by rfl)) rfl rfl rfl ?_
        refine AO.opB (O.buildSliceF rfl rfl rfl (by rfl) (by rfl) (by rfl) (by rfl) (by rfl)) rfl rfl rfl ?_
        intro B9
        refine AO.g ?_
        (refine G.freezeSl 0 80 rfl rfl ⟨Nat.le_refl _, by unfold maxLen; omega⟩ ?_)
        refine G.unfull 80 rfl ?_
        refine AO.u ?_
        dsimp only [List.eraseIdx]
        refine AO.op (O.lenR rfl rfl) rfl rfl rfl ?_
        refine AO.op (O.move rfl rfl) rfl rfl rfl ?_
        refine AO.nil ?_
        refine AQ.thenN ?_
        refine AW.block ?_
        obtain ⟨xs, hxs⟩ : ∃ xs : List Msg, xs = [m, Msg.none, ⟨3, 69, 0, [], [], []⟩] := ⟨_, rfl⟩
        have hxl : xs.length = 3 := by rw [hxs]; rfl
        have hxa : ∀ x ∈ xs, SmM x := by
          intro x hx
          rw [hxs] at hx
          simp only [List.mem_cons, List.not_mem_nil, or_false] at hx
          rcases hx with rfl | rfl | rfl
          · exact hmm
          · exact none_sm
          · exact bare_sm 3 69 0
        refine AW.g ?_
        refine G.coe 80 (b := .ro false 3 (msgsA xs)) rfl (Coe.ro (by rw [hxs]; show CoeL [.val (.int .i64 m.ty), .val (.int .i64 m.code), .val (.int .i64 m.id), roB m.tok, roO m.opts, roB m.pay, .val (.int .i64 0), .val (.int .i64 0), .val (.int .i64 0), .val nilS, .val nilS, .val nilS, .val (.int .i64 3), .val (.int .i64 69), .val (.int .i64 0), .val nilS, .val nilS, .val nilS] [.val (.int .i64 m.ty), .val (.int .i64 m.code), .val (.int .i64 m.id), roB m.tok, roO m.opts, roB m.pay, .val (.int .i64 0), .val (.int .i64 0), .val (.int .i64 0), roB [], roO [], roB [], .val (.int .i64 3), .val (.int .i64 69), .val (.int .i64 0), roB [], roO [], roB []]; repeat (first | exact CoeL.nil | refine CoeL.cons Coe.rfl ?_ | refine CoeL.cons Coe.nil ?_))) ?_
        refine AW.u ?_
        refine AW.loopK [(4, _), (5, _), (15, _), (18, _), (19, _), (20, _), (21, _), (53, _), (54, _), (55, _), (80, _), (81, _)] (fun nn E H => ∃ (j : Nat), (j ≤ 3) ∧ nn = 3 - j ∧ E = [(82, .val (.int .i64 (j : Int)))] ∧ H = [.blk B4 26 4 [.val (.int .i64 e.next), roW e.out, roU e.used, roH e.inn], .blk B2 31 6 [.val (.int .i64 m.ty), .val (.int .i64 m.code), .val (.int .i64 m.id), roB m.tok, roO m.opts, roB m.pay]]) _ (⟨0, by omega, rfl, rfl, rfl⟩) (by repeat (first | exact envNil | refine envCons rfl ?_)) (by repeat (first | exact envNil | refine envCons rfl ?_)) (by repeat (first | exact subPnil | refine subPcons 0 rfl ?_)) ?_
        rintro nn E H ⟨j, hj, rfl, rfl, rfl⟩
        dsimp only [List.cons_append, List.nil_append]
        refine AW.seq ?_
        refine AW.region ?_
        refine AO.op (O.lss rfl rfl rfl (by rfl)) rfl rfl rfl ?_
        refine AO.nil ?_
        refine AQ.thenN ?_
        refine AW.seq ?_
        refine AW.split rfl (fun hlt3 => ?_) (fun hlt3 => ?_) <;> (try simp only [decide_eq_true_eq, decide_eq_false_iff_not, beq_iff_eq, beq_eq_false_iff_ne, bne_iff_ne, bne_eq_false_iff_eq, Bool.not_eq_true', Bool.not_eq_false', Bool.not_eq_true, Bool.not_eq_false, ne_eq, Int.not_lt, Int.not_le, Bool.and_eq_true, Bool.or_eq_true, Bool.or_eq_false_iff, Bool.and_eq_false_imp, strOf_toList, Decidable.not_not] at hlt3)
        · skip
          have hgm := getMs (show j < xs.length by omega) (j := Int.toNat (j : Int)) (by omega)
          have hxm : SmM (mat xs j) := hxa _ (getD_mem Msg.none (by omega))
          obtain ⟨x, hx⟩ : ∃ x, x = mat xs j := ⟨_, rfl⟩
          rw [← hx] at hgm hxm
          replace hgm : ((msgsA xs).drop (Int.toNat (j : Int) * 6)).take 6 = [.val (.int .i64 x.ty), .val (.int .i64 x.code), .val (.int .i64 x.id), roB x.tok, roO x.opts, roB x.pay] := hgm
          refine AW.skip ?_
          refine AQ.thenN ?_
          refine AW.seq ?_
          refine AW.block ?_
          refine AW.seq ?_
          refine AW.region ?_
          refine AO.op (O.idxR rfl rfl rfl ⟨(by omega), (by omega)⟩) rfl rfl rfl ?_
          refine AO.op (O.loadRK rfl rfl (by exact hgm) (by rfl)) rfl rfl rfl ?_
          refine AO.opB (O.alloc rfl (by (dsimp only [zerosA, List.replicate, List.append, List.flatten, AV.cells, Value.cells, List.toList_toArray, List.map]; done)) (by rfl)) rfl rfl rfl ?_
          intro B10
          (refine AO.store (i := 0) rfl rfl rfl rfl rfl rfl (by rfl) (by rfl) (by rfl) (by (dsimp only [List.set, List.cons_append, List.nil_append, List.take, List.drop]; done)) (by (dsimp only [List.set, List.cons_append, List.nil_append, List.take, List.drop]; done)) ?_)
          refine AO.nil ?_
          refine AQ.thenN ?_
          refine AW.seq ?_
          refine AW.region ?_
          refine AO.op (O.move rfl rfl) rfl rfl rfl ?_
          refine AO.op (O.lenR rfl rfl) rfl rfl rfl ?_
          refine AO.op (O.move rfl rfl) rfl rfl rfl ?_
          refine AO.nil ?_
          refine AQ.thenN ?_
          refine AW.block ?_
          refine AW.loopK [(4, _), (5, _), (15, _), (18, _), (19, _), (20, _), (21, _), (25, _), (53, _), (54, _), (55, _), (80, _), (81, _), (82, _), (86, _), (87, _)] (fun nn E H => ∃ (q : Nat), (q ≤ ids.length) ∧ nn = ids.length - q ∧ E = [(88, .val (.int .i64 (q : Int)))] ∧ H = [.blk B10 31 6 [.val (.int .i64 x.ty), .val (.int .i64 x.code), .val (.int .i64 x.id), roB x.tok, roO x.opts, roB x.pay], .blk B4 26 4 [.val (.int .i64 e.next), roW e.out, roU e.used, roH e.inn], .blk B2 31 6 [.val (.int .i64 m.ty), .val (.int .i64 m.code), .val (.int .i64 m.id), roB m.tok, roO m.opts, roB m.pay]]) _ (⟨0, by omega, rfl, rfl, rfl⟩) (by repeat (first | exact envNil | refine envCons rfl ?_)) (by repeat (first | exact envNil | refine envCons rfl ?_)) (by repeat (first | exact subPnil | refine subPcons 0 rfl ?_)) ?_
          rintro nn E H ⟨q, hq, rfl, rfl, rfl⟩
          dsimp only [List.cons_append, List.nil_append]
          refine AW.seq ?_
          refine AW.region ?_
          refine AO.op (O.lss rfl rfl rfl (by rfl)) rfl rfl rfl ?_
          refine AO.nil ?_
          refine AQ.thenN ?_
          refine AW.seq ?_
          refine AW.split rfl (fun hlt4 => ?_) (fun hlt4 => ?_) <;> (try simp only [decide_eq_true_eq, decide_eq_false_iff_not, beq_iff_eq, beq_eq_false_iff_ne, bne_iff_ne, bne_eq_false_iff_eq, Bool.not_eq_true', Bool.not_eq_false', Bool.not_eq_true, Bool.not_eq_false, ne_eq, Int.not_lt, Int.not_le, Bool.and_eq_true, Bool.or_eq_true, Bool.or_eq_false_iff, Bool.and_eq_false_imp, strOf_toList, Decidable.not_not] at hlt4)
          · skip
            refine AW.skip ?_
            refine AQ.thenN ?_
            refine AW.seq ?_
            refine AW.block ?_
            refine AW.seq ?_
            refine AW.region ?_
            refine AO.op (O.idxR rfl rfl rfl ⟨(by omega), (by omega)⟩) rfl rfl rfl ?_
            refine AO.op (O.loadR rfl rfl (by exact roI_at (k := q) (by omega) (by omega))) rfl rfl rfl ?_
            refine AO.op (O.assign rfl rfl) rfl rfl rfl ?_
            refine AO.nil ?_
            refine AQ.thenN ?_
            refine AW.seq ?_
            refine AW.regionA _ (Al.mk' (i := 14) (d := 28) (T := 26) _ rfl rfl rfl rfl rfl (by (dsimp only [List.set, List.cons_append, List.nil_append, List.take, List.drop]; done)) (by rfl)) [(0, false), (1, false), (2, false), (3, false), (4, false), (5, false), (6, false), (7, false), (8, false), (9, false), (10, false), (11, false), (12, false), (13, false), (15, true), (14, true), (16, true), (17, true), (18, false)] (by kernel_rfl) (by kernel_rfl) (by exact splitNil) ?_
            dsimp only [List.eraseIdx]
            refine AN.op rfl (O.loadK rfl rfl (by repeat (first | exact List.Mem.head _ | refine List.Mem.tail _ ?_)) (by rfl) (by rfl)) rfl rfl rfl ?_
            refine AN.op rfl (O.move rfl rfl) rfl rfl rfl ?_
            refine AN.op rfl (O.call rfl Try.func17 rfl rfl rfl (Dk.mod_fn _ _ (by omega) (by omega))) rfl rfl rfl ?_
            refine AN.op rfl (O.move rfl rfl) rfl rfl rfl ?_
            refine AN.op rfl (O.loadK rfl rfl (by repeat (exact List.Mem.head _)) (by rfl) (by rfl)) rfl rfl rfl ?_
            refine AN.op rfl (O.move rfl rfl) rfl rfl rfl ?_
            refine AN.op rfl (O.move rfl rfl) rfl rfl rfl ?_
            refine AN.op rfl (O.idxR rfl rfl rfl ⟨(by omega), (by omega)⟩) rfl rfl rfl ?_
            refine AN.op rfl (O.loadR rfl rfl (by exact roI_at (k := k) (by omega) (by omega))) rfl rfl rfl ?_
            refine AN.op rfl (O.call rfl Try.func31 rfl rfl rfl (answer_fn e _ _ x _ hbd)) rfl rfl rfl ?_
            refine AN.op rfl (O.move rfl rfl) rfl rfl rfl ?_
            refine AN.op rfl (O.extract rfl rfl rfl) rfl rfl rfl ?_
            refine AN.op rfl (O.extract rfl rfl rfl) rfl rfl rfl ?_
            refine AN.op rfl (O.extract rfl rfl rfl) rfl rfl rfl ?_
            refine AN.main _ rfl rfl (fun w0 R0 => ?_)
            refine AO.opB (O.alloc rfl (by (dsimp only [zerosA, List.replicate, List.append, List.flatten, AV.cells, Value.cells, List.toList_toArray, List.map]; done)) (by rfl)) rfl rfl rfl ?_
            intro B11
            refine AM.ok ?_
            dsimp only [putE]
            refine AN.box rfl ?_
            intro B12
            dsimp only [Al.he]
            refine AN.main _ rfl rfl (fun w0 R0 => ?_)
            (refine AO.store (i := 0) rfl rfl rfl rfl rfl rfl (by rfl) (by rfl) (by rfl) (by (dsimp only [List.set, List.cons_append, List.nil_append, List.take, List.drop]; done)) (by (dsimp only [List.set, List.cons_append, List.nil_append, List.take, List.drop]; done)) ?_)
            refine AM.okN ?_
            dsimp only [putE]
            refine AN.main _ rfl rfl (fun w0 R0 => ?_)
            (refine AO.store (i := 1) rfl rfl rfl rfl rfl rfl (by rfl) (by rfl) (by rfl) (by (dsimp only [List.set, List.cons_append, List.nil_append, List.take, List.drop]; done)) (by (dsimp only [List.set, List.cons_append, List.nil_append, List.take, List.drop]; done)) ?_)
            refine AM.okN ?_
            dsimp only [putE]
            refine AN.op rfl (O.assign rfl rfl) rfl rfl rfl ?_
            refine AN.nil ?_
            dsimp only [List.cons_append, List.nil_append]
            refine AQ.thenN ?_
            refine AW.seq ?_
            refine AW.regionA _ (Al.mk' (i := 14) (d := 31) (T := 26) _ rfl rfl rfl rfl rfl (by (dsimp only [List.set, List.cons_append, List.nil_append, List.take, List.drop]; done)) (by rfl)) [(0, false), (1, false), (2, false), (3, false), (4, false), (5, false), (6, false), (7, false), (8, false), (9, false), (10, false), (11, false), (12, false), (13, false), (15, true), (14, true), (16, true), (17, true), (18, false)] (by kernel_rfl) (by kernel_rfl) (by exact splitNil) ?_
            dsimp only [List.eraseIdx]
            refine AN.op rfl (O.loadK rfl rfl (by repeat (first | exact List.Mem.head _ | refine List.Mem.tail _ ?_)) (by rfl) (by rfl)) rfl rfl rfl ?_
            refine AN.op rfl (O.move rfl rfl) rfl rfl rfl ?_
            refine AN.op rfl (O.call rfl Try.func17 rfl rfl rfl (Dk.mod_fn _ _ (by omega) (by omega))) rfl rfl rfl ?_
            refine AN.op rfl (O.move rfl rfl) rfl rfl rfl ?_
            refine AN.op rfl (O.loadK rfl rfl (by repeat (first | exact List.Mem.head _ | refine List.Mem.tail _ ?_)) (by rfl) (by rfl)) rfl rfl rfl ?_
            refine AN.op rfl (O.move rfl rfl) rfl rfl rfl ?_
            refine AN.op rfl (O.move rfl rfl) rfl rfl rfl ?_
            refine AN.op rfl (O.idxR rfl rfl rfl ⟨(by omega), (by omega)⟩) rfl rfl rfl ?_
            refine AN.op rfl (O.loadR rfl rfl (by exact roI_at (k := k) (by omega) (by omega))) rfl rfl rfl ?_
            refine AN.op rfl (O.call rfl Try.func32 rfl rfl rfl (ranswer_fn e _ _ x _ hbd hxm)) rfl rfl rfl ?_
            refine AN.op rfl (O.move rfl rfl) rfl rfl rfl ?_
            refine AN.op rfl (O.extract rfl rfl rfl) rfl rfl rfl ?_
            refine AN.op rfl (O.extract rfl rfl rfl) rfl rfl rfl ?_
            refine AN.op rfl (O.extract rfl rfl rfl) rfl rfl rfl ?_
            refine AN.main _ rfl rfl (fun w0 R0 => ?_)
            refine AO.opB (O.alloc rfl (by (dsimp only [zerosA, List.replicate, List.append, List.flatten, AV.cells, Value.cells, List.toList_toArray, List.map]; done)) (by rfl)) rfl rfl rfl ?_
            intro B13
            refine AM.ok ?_
            dsimp only [putE]
            refine AN.box rfl ?_
            intro B14
            dsimp only [Al.he]
            refine AN.main _ rfl rfl (fun w0 R0 => ?_)
            (refine AO.store (i := 0) rfl rfl rfl rfl rfl rfl (by rfl) (by rfl) (by rfl) (by (dsimp only [List.set, List.cons_append, List.nil_append, List.take, List.drop]; done)) (by (dsimp only [List.set, List.cons_append, List.nil_append, List.take, List.drop]; done)) ?_)
            refine AM.okN ?_
            dsimp only [putE]
            refine AN.main _ rfl rfl (fun w0 R0 => ?_)
            (refine AO.store (i := 1) rfl rfl rfl rfl rfl rfl (by rfl) (by rfl) (by rfl) (by (dsimp only [List.set, List.cons_append, List.nil_append, List.take, List.drop]; done)) (by (dsimp only [List.set, List.cons_append, List.nil_append, List.take, List.drop]; done)) ?_)
            refine AM.okN ?_
            dsimp only [putE]
            refine AN.op rfl (O.assign rfl rfl) rfl rfl rfl ?_
            refine AN.nil ?_
            dsimp only [List.cons_append, List.nil_append]
            refine AQ.thenN ?_
            refine AW.seq ?_
            refine AW.region ?_
            refine AO.op (O.loadK rfl rfl (by repeat (first | exact List.Mem.head _ | refine List.Mem.tail _ ?_)) (by rfl) (by rfl)) rfl rfl rfl ?_
            refine AO.op (O.loadK rfl rfl (by repeat (exact List.Mem.head _)) (by rfl) (by rfl)) rfl rfl rfl ?_
            refine AO.op (O.call rfl Try.func20 rfl rfl rfl (sameE_fn _ (answerR_cmp _ _ _ _ _).1)) rfl rfl rfl ?_
            refine AO.op (O.not rfl rfl (by rfl)) rfl rfl rfl ?_
            refine AO.op (O.move rfl rfl) rfl rfl rfl ?_
            refine AO.opG rfl rfl rfl (fun hp => O.loadK rfl rfl (by repeat (first | exact List.Mem.head _ | refine List.Mem.tail _ ?_)) (by rfl) (by rfl)) ?_
            refine AO.opG rfl rfl rfl (fun hp => O.loadK rfl rfl (by repeat (first | exact List.Mem.head _ | refine List.Mem.tail _ ?_)) (by rfl) (by rfl)) ?_
            refine AO.opG rfl rfl rfl (fun hp => OpW.force 125 rfl (by exact hp) (OpW.force 126 rfl (by exact hp) (O.call rfl Try.func21 rfl rfl rfl (same_fn _ _ (answerR_cmp _ _ _ _ _).2)))) ?_
            refine AO.opG rfl rfl rfl (fun hp => OpW.force 127 rfl (by exact hp) (O.not rfl rfl (by rfl))) ?_
            refine AO.op (O.pickOr rfl rfl rfl rfl (fun h => by exact congrArg (fun b => !b) h)) rfl rfl rfl ?_
            refine AO.op (O.move rfl rfl) rfl rfl rfl ?_
            refine AO.opG rfl rfl rfl (fun hp => O.move rfl rfl) ?_
            refine AO.opG rfl rfl rfl (fun hp => O.move rfl rfl) ?_
            refine AO.opG rfl rfl rfl (fun hp => OpW.force 131 rfl (by exact hp) (OpW.force 132 rfl (by exact hp) (O.neq rfl rfl rfl (by exact bne_eq_false_iff_eq.2 (by omega))))) ?_
            refine AO.op (O.pickOr rfl rfl rfl rfl (fun h => by exact congrArg (fun b => !b) h)) rfl rfl rfl ?_
            refine AO.nil ?_
            refine AQ.thenN ?_
            refine AW.split rfl (fun h125 => ?_) (fun h125 => ?_) <;> (try simp only [decide_eq_true_eq, decide_eq_false_iff_not, beq_iff_eq, beq_eq_false_iff_ne, bne_iff_ne, bne_eq_false_iff_eq, Bool.not_eq_true', Bool.not_eq_false', Bool.not_eq_true, Bool.not_eq_false, ne_eq, Int.not_lt, Int.not_le, Bool.and_eq_true, Bool.or_eq_true, Bool.or_eq_false_iff, Bool.and_eq_false_imp, strOf_toList, Decidable.not_not] at h125)
            · skip
              exact absurd h125 (by simp)
            · skip
              refine AW.skip ?_
              refine AQ.blockN ?_
              refine AQ.thenN ?_
              refine AW.region ?_
              refine AO.op (O.add rfl rfl rfl (by exact wI64 (by omega))) rfl rfl rfl ?_
              refine AO.op (O.move rfl rfl) rfl rfl rfl ?_
              refine AO.nil ?_
              refine AQ.loopKN _ _ _ (by omega) (⟨q + 1, by omega, rfl, rfl, rfl⟩) (by repeat (first | exact envNil | refine envCons rfl ?_)) (by repeat (first | exact envNil | refine envCons rfl ?_)) (by repeat (first | exact subPnil | refine subPcons 4 rfl ?_))
          · skip
            refine AW.exit ?_
            refine AQ.thenX ?_
            refine AQ.loopX ?_
            refine AQ.blockX rfl ?_
            refine AQ.blockN ?_
            refine AQ.thenN ?_
            refine AW.region ?_
            refine AO.op (O.add rfl rfl rfl (by exact wI64 (by omega))) rfl rfl rfl ?_
            refine AO.op (O.move rfl rfl) rfl rfl rfl ?_
            refine AO.nil ?_
            refine AQ.loopKN _ _ _ (by omega) (⟨j + 1, by omega, rfl, rfl, rfl⟩) (by repeat (first | exact envNil | refine envCons rfl ?_)) (by repeat (first | exact envNil | refine envCons rfl ?_)) (by repeat (first | exact subPnil | refine subPcons 1 rfl ?_))
        · skip
          refine AW.exit ?_
          refine AQ.thenX ?_
          refine AQ.loopX ?_
          refine AQ.blockX rfl ?_
          refine AQ.blockN ?_
          refine AQ.thenN ?_
          refine AW.region ?_
          refine AO.op (O.add rfl rfl rfl (by exact wI64 (by omega))) rfl rfl rfl ?_
          refine AO.op (O.move rfl rfl) rfl rfl rfl ?_
          refine AO.nil ?_
          refine AQ.loopKN _ _ _ (by omega) (⟨k + 1, by omega, rfl, rfl, rfl⟩) (by repeat (first | exact envNil | refine envCons rfl ?_)) (by repeat (first | exact envNil | refine envCons rfl ?_)) (by repeat (first | exact subPnil | refine subPcons 1 rfl ?_))
    · skip
      refine AW.exit ?_
      refine AQ.thenX ?_
      refine AQ.loopX ?_
      refine AQ.blockX rfl ?_
      refine AQ.thenN ?_
      refine AW.seq ?_
      refine AW.region ?_
      refine AO.op (O.call rfl Try.func11 rfl rfl rfl (awake17_fn)) rfl rfl rfl ?_
      refine AO.op (O.assign rfl rfl) rfl rfl rfl ?_
      refine AO.nil ?_
      refine AQ.thenN ?_
      refine AW.ret ?_
      refine AQ.ret1 rfl rfl ⟨_, List.nil_sublist _, .nil⟩ (⟨rfl, rfl⟩)
end Go.Proofs.Ytdnmilmcdbgppaa.By

namespace Go.Proofs.Ytdnmilmcdbgppaa.A
open Go.ChangeShapes Go.WideShapes Go.ChangeAt Go.RowKit Go.Deep L
set_option linter.unusedVariables false
set_option maxRecDepth 20000
set_option linter.unusedSimpArgs false
abbrev Bnd {H : Type} (P : Program) (t : TypeId) (d : DataW H) : Prop := ∀ w ∈ d.weights P t, w ≤ reachBytes
section
variable {H : Type} {enc : TypeId × Value → H} {P : Program} {W : World}
theorem weightsAll_mem {e : TypeId} {d : DataW H} {l : List (DataW H)} (h : d ∈ l) {w : Nat} (hw : w ∈ d.weights P e) : w ∈ DataW.weightsAll P e l := by
  induction l with
  | nil => cases h
  | cons x r ih =>
    unfold DataW.weightsAll
    rcases List.mem_cons.1 h with rfl | h
    · exact List.mem_append_left _ hw
    · exact List.mem_append_right _ (ih h)
theorem slice_len {R : Nat → Prop} {full : Bool} {n : Nat} {xs : List AV} {a : Option Addr} {len cap : Nat} (h : RelV R W (.ro full n xs) (.slice a len cap)) : n = len := by
  cases h <;> rfl
theorem rd_sliceZ {α : Type} {enc' : α → List AV} {good : α → Prop} {base : Nat} {spare : Nat → Bool} {held : Bool} {t e : TypeId} (ht : P.underlying t = some (.slice e)) (hsz : ∀ a, (enc' a).length = P.cellsOf e) (hpos : 0 < P.cellsOf e)
    (he : ∀ (n : Nat) (cs : List Value) (x : DataW H × List MemPlace), cs.length = P.cellsOf e → DataW.trod enc P W base spare held n e cs = some x → Bnd P e x.1 → ∃ a, good a ∧ RelL (Old W) W (enc' a) cs)
    {n : Nat} {cs : List Value} {x : DataW H × List MemPlace} (h : DataW.trod enc P W base spare held n t cs = some x) (hz : Bnd P t x.1) :
    ∃ l : List α, (∀ a ∈ l, good a) ∧ l.length ≤ maxLen ∧ RelL (Old W) W [.ro false l.length (l.flatMap enc')] cs := by
  rcases open_slice ht h with ⟨rfl, -⟩ | ⟨ad, len, cap, m, n', D, Pl, rfl, hb, hl, hm, hmm, hx, hi⟩
  · exact ⟨[], fun _ h => (by cases h), Nat.zero_le _, RelL.cons (.emp _ _ _ (fun h => by cases h) (Nat.zero_le _)) RelL.nil⟩
  · have hlm : len ≤ m := by rw [hmm]; split <;> omega
    have hD : ∀ i, i < len → Bnd P e (D i) := fun i hi' w hw => by
      rw [hx] at hz
      refine hz w ?_
      unfold DataW.weights
      rw [ht]
      simp only [List.mem_cons, List.mem_append]
      exact .inr (.inl (weightsAll_mem (List.mem_map.2 ⟨i, List.mem_range.2 hi', rfl⟩) hw))
    have hex : ∀ i : Nat, ∃ a : Option α, i < len → ∃ a', a = some a' ∧ good a' ∧ ∃ cs', W.cells? base (ad.add (i * P.cellsOf e)) (P.cellsOf e) = some cs' ∧ RelL (Old W) W (enc' a') cs' := fun i => by
      by_cases hil : i < len
      · obtain ⟨cs', hc, htr⟩ := hi i (by omega)
        obtain ⟨_, hcl, _⟩ := World.cells?_some hc
        obtain ⟨a, hg, hr⟩ := he _ _ _ hcl htr (hD i hil)
        exact ⟨some a, fun _ => ⟨a, rfl, hg, cs', hc, hr⟩⟩
      · exact ⟨none, fun h => absurd h hil⟩
    obtain ⟨f, hf⟩ := Classical.axiomOfChoice hex
    by_cases hlen0 : len = 0
    · subst hlen0
      exact ⟨[], fun _ h => (by cases h), Nat.zero_le _, RelL.cons (.emp _ _ _ (fun h => by cases h) hm) RelL.nil⟩
    · obtain ⟨a0, _, _⟩ := hf 0 (by omega)
      let g : Nat → α := fun i => (f i).getD a0
      have hg : ∀ i, i < len → good (g i) ∧ ∃ cs', W.cells? base (ad.add (i * P.cellsOf e)) (P.cellsOf e) = some cs' ∧ RelL (Old W) W (enc' (g i)) cs' := fun i hi' => by
        obtain ⟨a', ha', h1, h2⟩ := hf i hi'
        have : g i = a' := by simp [g, ha']
        rw [this]; exact ⟨h1, h2⟩
      have hflat : ∀ (len : Nat), (((List.range len).map g).flatMap enc').length = len * P.cellsOf e := by
        intro len
        induction len with
        | zero => simp
        | succ k ih => rw [List.range_succ, List.map_append, List.flatMap_append, List.length_append, ih]; simp [hsz, Nat.add_mul]
      have hflatget : ∀ (len i j : Nat), i < len → j < P.cellsOf e → (((List.range len).map g).flatMap enc')[i * P.cellsOf e + j]? = (enc' (g i))[j]? := by
        intro len
        induction len with
        | zero => intro i j h; omega
        | succ k ih =>
          intro i j h hj
          rw [List.range_succ, List.map_append, List.flatMap_append, List.getElem?_append]
          by_cases hik : i < k
          · have h1 : (i + 1) * P.cellsOf e ≤ k * P.cellsOf e := Nat.mul_le_mul_right _ (by omega)
            rw [Nat.add_mul] at h1
            rw [if_pos (by rw [hflat]; omega)]
            exact ih i j hik hj
          · have : i = k := by omega
            subst this
            rw [if_neg (by rw [hflat]; omega), hflat]
            simp
      have hblk : ad.spot = none ∧ ad.block < W.heap.size := by
        obtain ⟨_, cs', hc, _⟩ := hg 0 (by omega)
        obtain ⟨_, hcl, hat⟩ := World.cells?_some hc
        have h0 := hat 0 hpos
        simp only [Nat.zero_mul] at h0
        have h1 : W.cell? ad ≠ none := by
          intro hn
          rw [show (ad.add 0).add 0 = ad by simp [Addr.add]] at h0
          rw [hn] at h0
          have := (List.getElem?_eq_none_iff.1 h0.symm)
          omega
        refine ⟨?_, ?_⟩
        · cases hsp : ad.spot with
          | none => rfl
          | some _ => exfalso; apply h1; unfold World.cell?; split <;> simp [hsp]
        · cases hc : W.cell? ad with
          | none => exact absurd hc h1
          | some u => exact World.block_lt_of_cell? W ad hc
      obtain ⟨b, off, sp⟩ := ad
      obtain ⟨rfl, hblt⟩ := hblk
      have hcell : ∀ i j, i < len → j < P.cellsOf e → ∃ u, W.cell? ⟨b, off + (i * P.cellsOf e + j), none⟩ = some u ∧ ∃ x, (enc' (g i))[j]? = some x ∧ RelV (Old W) W x u := fun i j hi' hj => by
        obtain ⟨_, cs', hc, hr⟩ := hg i hi'
        obtain ⟨_, hcl, hat⟩ := World.cells?_some hc
        have h0 := hat j hj
        rw [addr_add, addr_add] at h0
        have hjl : j < cs'.length := by omega
        have hjx : j < (enc' (g i)).length := by rw [hsz]; exact hj
        refine ⟨cs'[j], by rw [← Nat.add_assoc, h0]; simp [hjl], (enc' (g i))[j], by simp [hjx], ?_⟩
        have := hr.2 j hjx
        simpa [hjl] using this
      refine ⟨(List.range len).map g, fun a ha => ?_, by simp; omega, RelL.cons ?_ RelL.nil⟩
      · obtain ⟨i, hi', rfl⟩ := List.mem_map.1 ha
        exact (hg i (List.mem_range.1 hi')).1
      · rw [List.length_map, List.length_range]
        have hq : ∀ j, j < (((List.range len).map g).flatMap enc').length → ∃ u, W.cell? ⟨b, off + j, none⟩ = some u ∧ ∃ x, (((List.range len).map g).flatMap enc')[j]? = some x ∧ RelV (Old W) W x u := fun j hj => by
          rw [hflat] at hj
          have h1 : j / P.cellsOf e < len := (Nat.div_lt_iff_lt_mul hpos).2 hj
          have h2 := Nat.mod_lt j hpos
          have h3 : j / P.cellsOf e * P.cellsOf e + j % P.cellsOf e = j := by rw [Nat.mul_comm]; exact Nat.div_add_mod j _
          obtain ⟨u, hu, x, hx', hr⟩ := hcell (j / P.cellsOf e) (j % P.cellsOf e) h1 h2
          rw [h3] at hu
          refine ⟨u, hu, x, ?_, hr⟩
          have := hflatget len _ _ h1 h2
          rw [h3] at this
          rw [this, hx']
        refine .ro false len _ b off cap (fun j => (W.cell? ⟨b, off + j, none⟩).getD undef) hblt (fun j hj => ?_) (fun j hj => ?_) hl hm (fun h => by cases h)
        · obtain ⟨u, hu, _⟩ := hq j hj
          rw [hu]; rfl
        · obtain ⟨u, hu, x, hx', hr⟩ := hq j hj
          rw [hu]
          simp only [Option.getD_some]
          have : x = (((List.range len).map g).flatMap enc')[j] := by
            rw [List.getElem?_eq_getElem hj] at hx'; exact (Option.some.inj hx').symm
          rw [← this]; exact hr

end
section
variable {P : Program}
structure RdZ (P : Program) (t : TypeId) {α : Type} (f : α → List AV) (good : α → Prop) : Prop where
  len : ∀ a, (f a).length = P.cellsOf t
  rd : ∀ (H : Type) (enc : TypeId × Value → H) (W : World) (base : Nat) (spare : Nat → Bool) (held : Bool) (n : Nat) (cs : List Value) (x : DataW H × List MemPlace),
    DataW.trod enc P W base spare held n t cs = some x → Bnd P t x.1 → ∃ a, good a ∧ RelL (Old W) W (f a) cs
theorem RdC.z {t : TypeId} {α : Type} {f : α → List AV} {good : α → Prop} (h : RdC P t f good) : RdZ P t f good := ⟨h.len, fun H enc W base spare held n cs x hx _ => h.rd H enc W base spare held n cs x hx⟩
theorem row_len {H : Type} {enc : TypeId × Value → H} {W : World} {base : Nat} {spare : Nat → Bool} {held : Bool} {t e : TypeId} (ht : P.underlying t = some (.slice e)) {n : Nat} {cs : List Value} {x : DataW H × List MemPlace} (h : DataW.trod enc P W base spare held n t cs = some x) (hz : Bnd P t x.1)
    {full : Bool} {N : Nat} {xs : List AV} (hr : RelL (Old W) W [.ro full N xs] cs) : N * P.bytesOf e ≤ reachBytes := by
  rcases open_slice ht h with ⟨rfl, -⟩ | ⟨ad, len, cap, m, n', D, Pl, rfl, hb, hl, hm, hmm, hx, hi⟩
  · obtain ⟨u, r, he, h1, -⟩ := hr.uncons
    cases he
    have := slice_len h1
    subst this
    simp
  · obtain ⟨u, r, he, h1, -⟩ := hr.uncons
    cases he
    have := slice_len h1
    subst this
    rw [hx] at hz
    have h2 := hz ((((List.range N).map D).length + ((List.range (m - N)).map fun j => D (N + j)).length) * P.bytesOf e) (by unfold DataW.weights; rw [ht]; exact List.mem_cons_self ..)
    rw [List.length_map, List.length_range] at h2
    exact Nat.le_trans (Nat.mul_le_mul_right _ (Nat.le_add_right _ _)) h2
theorem RdZ.bytes {t e : TypeId} (ht : P.underlying t = some (.slice e)) (he : P.underlying e = some (.int .u8)) (h1 : P.cellsOf t = 1) (h2 : P.cellsOf e = 1) (hb : P.bytesOf e = 1) : RdZ P t (fun l : List UInt8 => [roB l]) (fun l => l.length ≤ reachBytes) :=
  ⟨fun _ => h1.symm, fun H enc W base spare held n cs x hx hz => by
    obtain ⟨l, h3, h4⟩ := rd_bytes ht he h2 hx
    have := row_len ht hx hz h4
    rw [hb, Nat.mul_one] at this
    exact ⟨l, this, h4⟩⟩
theorem RdZ.slice {t e : TypeId} {α : Type} {f : α → List AV} {good : α → Prop} (ht : P.underlying t = some (.slice e)) (h1 : P.cellsOf t = 1) (hpos : 0 < P.cellsOf e) (h : RdZ P e f good) :
    RdZ P t (fun l : List α => [.ro false l.length (l.flatMap f)]) (fun l => (∀ a ∈ l, good a) ∧ l.length * P.bytesOf e ≤ reachBytes) :=
  ⟨fun _ => h1.symm, fun H enc W base spare held n cs x hx hz => by
    obtain ⟨l, h2, h3, h4⟩ := rd_sliceZ ht h.len hpos (fun n cs x _ hx hz => h.rd H enc W base spare held n cs x hx hz) hx hz
    exact ⟨l, ⟨h2, row_len ht hx hz h4⟩, h4⟩⟩
/-- Fields, one after the other, from cell o on. -/
structure FRZ (P : Program) (fs : List Field) (o m : Nat) {α : Type} (f : α → List AV) (good : α → Prop) : Prop where
  len : ∀ a, (f a).length = m
  rd : ∀ (H : Type) (enc : TypeId × Value → H) (W : World) (base : Nat) (spare : Nat → Bool) (held : Bool) (cs : List Value), cs.length = o + m →
    (∀ fd ∈ fs, ∃ (n : Nat) (y : DataW H × List MemPlace), DataW.trod enc P W base spare held n fd.type ((cs.drop fd.offset).take (P.cellsOf fd.type)) = some y ∧ Bnd P fd.type y.1) → ∃ a, good a ∧ RelL (Old W) W (f a) (cs.drop o)
theorem FRZ.nil {o : Nat} : FRZ P [] o 0 (fun _ : Unit => []) (fun _ => True) :=
  ⟨fun _ => rfl, fun H enc W base spare held cs hl _ => ⟨(), trivial, by rw [List.drop_of_length_le (by omega)]; exact RelL.nil⟩⟩
theorem FRZ.cons {fd : Field} {fs : List Field} {o k m : Nat} {α β : Type} {f : α → List AV} {good : α → Prop} {g : β → List AV} {good' : β → Prop} (h : RdZ P fd.type f good) (ho : fd.offset = o) (hk : P.cellsOf fd.type = k) (hs : FRZ P fs (o + k) m g good') :
    FRZ P (fd :: fs) o (k + m) (fun p : α × β => f p.1 ++ g p.2) (fun p => good p.1 ∧ good' p.2) :=
  ⟨fun p => by rw [List.length_append, h.len, hs.len, hk], fun H enc W base spare held cs hl hall => by
    obtain ⟨n, y, h1, hz⟩ := hall fd (List.mem_cons_self ..)
    rw [ho, hk] at h1
    obtain ⟨a, h2, h3⟩ := h.rd H enc W base spare held _ _ _ h1 hz
    obtain ⟨b, h4, h5⟩ := hs.rd H enc W base spare held cs (by omega) (fun fd hfd => hall fd (List.mem_cons_of_mem _ hfd))
    exact ⟨(a, b), ⟨h2, h4⟩, RelL.glue h3 h5⟩⟩
theorem RdZ.struct {t : TypeId} {fs : List Field} {m : Nat} {α : Type} {f : α → List AV} {good : α → Prop} (ht : P.underlying t = some (.struct fs.toArray)) (hm : P.cellsOf t = m) (h : FRZ P fs 0 m f good) : RdZ P t f good :=
  ⟨fun a => by rw [h.len, hm], fun H enc W base spare held n cs x hx hz => by
    obtain ⟨xs, n', _, hxe, hl, hlen, hf⟩ := DataW.trod_struct ht hx
    obtain ⟨a, h1, h2⟩ := h.rd H enc W base spare held cs (by omega) (fun fd hfd => by
      obtain ⟨i, hi, rfl⟩ := List.getElem_of_mem hfd
      have h0 := hf i fs[i] (by simp [hi])
      have hxi : i < xs.length := by rw [hlen]; simpa using hi
      rw [List.getElem?_eq_getElem hxi] at h0
      refine ⟨n', _, h0, fun w hw => hz w ?_⟩
      rw [hxe]
      unfold DataW.weights
      rw [ht]
      exact DataW.weights_mem_each (j := i) (t := fs[i].type) (d := xs[i].1) (by simp [hi]) (by simp [hxi]) w hw)
    exact ⟨a, h1, by simpa using h2⟩⟩
theorem RdZ.map {t : TypeId} {α β : Type} {f : α → List AV} {good : α → Prop} {g : β → List AV} {good' : β → Prop} (h : RdZ P t f good) (φ : α → β) (hφ : ∀ a, good a → good' (φ a) ∧ f a = g (φ a)) (hl : ∀ b, (g b).length = P.cellsOf t) : RdZ P t g good' :=
  ⟨hl, fun H enc W base spare held n cs x hx hz => by
    obtain ⟨a, h1, h2⟩ := h.rd H enc W base spare held n cs x hx hz
    exact ⟨φ a, (hφ a h1).1, (hφ a h1).2 ▸ h2⟩⟩
/-- Arguments of this type read as one of these. -/
def ReadsZ (P : Program) (t : TypeId) (φ : AV → Prop) : Prop :=
  ∀ (H : Type) (enc : TypeId × Value → H) (W : World) (base b0 : Nat) (spare : Nat → Bool) (held : Bool) (v : Value) (d : DataW H) (p : List MemPlace),
    Value.okWide P W .any b0 t v → DataW.Trod enc P W base spare held t v d p → Bnd P t d → ∃ x, φ x ∧ RelV (Old W) W x v
theorem Reads.z {t : TypeId} {φ : AV → Prop} (h : Reads P t φ) : ReadsZ P t φ := fun H enc W base b0 spare held v d p hv ht _ => h H enc W base b0 spare held v d p hv ht
theorem RdZ.readsAgg {t : TypeId} {α : Type} {f : α → List AV} {good : α → Prop} (h : RdZ P t f good) (hw : ∀ (W : World) (b : Nat) (v : Value), Value.okWide P W .any b t v → ∃ cs, v = .agg cs) : ReadsZ P t (fun x => ∃ a, good a ∧ x = .agg (f a)) :=
  fun H enc W base b0 spare held v d p hv ⟨n, hx⟩ hz => by
    obtain ⟨cs, rfl⟩ := hw _ _ _ hv
    obtain ⟨a, h1, h2⟩ := h.rd H enc W base spare held n _ _ hx hz
    exact ⟨.agg (f a), ⟨a, h1, rfl⟩, relV_of_agg h2⟩
theorem RdZ.reads {t : TypeId} {α : Type} {f : α → List AV} {good : α → Prop} (h : RdZ P t f good) (g : α → AV) (hg : ∀ a, f a = [g a]) (hw : ∀ (W : World) (b : Nat) (v : Value), Value.okWide P W .any b t v → v.cells.toList = [v]) : ReadsZ P t (fun x => ∃ a, good a ∧ x = g a) :=
  fun H enc W base b0 spare held v d p hv ⟨n, hx⟩ hz => by
    obtain ⟨a, h1, h2⟩ := h.rd H enc W base spare held n _ _ hx hz
    rw [hg] at h2
    exact ⟨g a, ⟨a, h1, rfl⟩, relV_of_one (hw _ _ _ hv) h2⟩
theorem ReadsZ.bytes {t e : TypeId} (ht : P.underlying t = some (.slice e)) (he : P.underlying e = some (.int .u8)) (h1 : P.cellsOf t = 1) (h2 : P.cellsOf e = 1) (hb : P.bytesOf e = 1) : ReadsZ P t (fun x => ∃ l : List UInt8, l.length ≤ reachBytes ∧ x = roB l) := (RdZ.bytes ht he h1 h2 hb).reads roB (fun _ => rfl) (fun _ _ _ h => okw_slice ht h)
def ReadsZL (P : Program) : List TypeId → List (AV → Prop) → Prop
  | [], [] => True
  | t :: ts, φ :: φs => ReadsZ P t φ ∧ ReadsZL P ts φs
  | _, _ => False
theorem ReadsZL.nil : ReadsZL P [] [] := trivial
theorem ReadsZL.cons {t : TypeId} {ts : List TypeId} {φ : AV → Prop} {φs : List (AV → Prop)} (h : ReadsZ P t φ) (hs : ReadsZL P ts φs) : ReadsZL P (t :: ts) (φ :: φs) := ⟨h, hs⟩
theorem readAllZ {H : Type} {enc : TypeId × Value → H} {W : World} {base b0 : Nat} {spare : Nat → Bool} {held : Bool} : ∀ {ts : List TypeId} {φs : List (AV → Prop)} {K : List AV → Prop} {vs : List Value} {ds : List (DataW H)} {ps : List MemPlace},
    ReadsZL P ts φs → AllOf φs K → (∀ (j : Nat) t v, ts[j]? = some t → vs[j]? = some v → Value.okWide P W .any b0 t v) → DataW.TrodAll enc P W base spare held ts vs ds ps → (∀ (j : Nat) t d, ts[j]? = some t → ds[j]? = some d → Bnd P t d) → ∃ xs, K xs ∧ RelL (Old W) W xs vs
  | [], [], K, vs, ds, ps, _, hK, _, hT, _ => by
    obtain ⟨rfl, _, _⟩ := trodAll_nil hT
    exact ⟨[], hK, RelL.nil⟩
  | [], _ :: _, _, _, _, _, h, _, _, _, _ => h.elim
  | _ :: _, [], _, _, _, _, h, _, _, _, _ => h.elim
  | t :: ts, φ :: φs, K, vs, ds, ps, h, hK, hv, hT, hz => by
    obtain ⟨v0, vs0, d0, ds0, p0, q0, rfl, rfl, rfl, h0, r0⟩ := trodAll_cons hT
    obtain ⟨x, h1, h2⟩ := h.1 H enc W base b0 spare held v0 d0 p0 (hv 0 t v0 rfl rfl) h0 (hz 0 t d0 rfl rfl)
    obtain ⟨xs, h3, h4⟩ := readAllZ h.2 (hK x h1) (fun j t v a b => hv (j + 1) t v a b) r0 (fun j t d a b => hz (j + 1) t d a b)
    exact ⟨x :: xs, h3, RelL.cons h2 h4⟩
end
theorem trodAll_len {H : Type} {enc : TypeId × Value → H} {P : Program} {W : World} {base : Nat} {spare : Nat → Bool} {held : Bool} : ∀ {ts : List TypeId} {vs : List Value} {ds : List (DataW H)} {ps : List MemPlace}, DataW.TrodAll enc P W base spare held ts vs ds ps → ds.length = ts.length
  | [], vs, ds, ps, h => by obtain ⟨_, rfl, _⟩ := trodAll_nil h; rfl
  | t :: ts, vs, ds, ps, h => by
    obtain ⟨v0, vs0, d0, ds0, p0, q0, rfl, rfl, rfl, h0, r0⟩ := trodAll_cons h
    rw [List.length_cons, List.length_cons, trodAll_len r0]
theorem law_contractZ {f : FuncId} {fn : Func} {s : ChangeSpec} {H : Type} (enc : TypeId × Value → H) {ts : List TypeId} {φs : List (AV → Prop)} (hp : fn.params.toList = ts) (hr : ReadsZL Try.prog ts φs)
    (h : AllOf φs fun xs => Sp Try.prog f xs [] (Is (.val (.bool true)))) {W : World} {base : Nat} {args : Array Value} {ds gs : List (DataW H)} {before : List MemPlace} {vt : List TypeId}
    (hval : ∀ (j : Nat) t v, fn.params[j]? = some t → args[j]? = some v → Value.okWide Try.prog W .any base t v)
    (hW : DataW.Whole enc Try.prog fn.params.toList s.vars false W args.toList ds gs before)
    (hz : (DataW.weightsEach Try.prog (fn.params.toList ++ vt) (ds ++ gs)).all (· ≤ reachBytes) = true)
    (post : ∀ W', Ext W W' → s.post enc Try.prog fn false true false false W args (.bool true) W') :
    Calls Try.prog f args W fun e W' => ∃ v, e = .returned v ∧ s.post enc Try.prog fn false true false false W args v W' := by
  obtain ⟨p, q, hA, hV, rfl, hfz, hnd⟩ := hW
  rw [hp] at hA hz
  have hlen := trodAll_len hA
  obtain ⟨xs, hS, hR⟩ := readAllZ (b0 := base) hr h (fun j t v h1 h2 => hval j t v (by rw [← Array.getElem?_toList, hp]; exact h1) (by rw [← Array.getElem?_toList]; exact h2)) hA (fun j t d h1 h2 w hw => by
    have hj : j < ts.length := (List.getElem?_eq_some_iff.1 h1).1
    have := List.all_eq_true.1 hz w (DataW.weights_mem_each (j := j) (t := t) (d := d) (by rw [List.getElem?_append_left hj]; exact h1) (by rw [List.getElem?_append_left (by omega)]; exact h2) w hw)
    simpa using this)
  have hc := hS W (Old W) args.toList (fun b hb => hb) (fun e he => by cases he) .nil hR
  rw [Array.toArray_toList] at hc
  refine hc.mono ?_
  rintro e W' ⟨u, r, H', R', rfl, ⟨rfl, rfl⟩, hs, hv⟩
  obtain rfl := hv.val_inv
  exact ⟨_, rfl, post W' (hs.mods.mono fun b _ ⟨e, he, _⟩ => by cases he)⟩
end Go.Proofs.Ytdnmilmcdbgppaa.A

namespace Go.Proofs.Ytdnmilmcdbgppaa.By
open Go.RowKit Go.Deep L A
set_option linter.unusedVariables false
set_option maxRecDepth 20000
theorem i64_in {z : Int} (h : (Lit.int .i64 z).wf = true) : -9223372036854775808 ≤ z ∧ z ≤ 9223372036854775807 := by
  simpa [Lit.wf, IntKind.min, IntKind.max, IntKind.signed, IntKind.bits] using h
theorem reach_le : reachBytes ≤ 140737488355328 := by decide +kernel
theorem small_of {n k b : Nat} (hb : b = k) (hk : 1 ≤ k) (h : n * b ≤ reachBytes) : n ≤ 140737488355328 := by
  subst hb
  have := reach_le
  have := Nat.le_mul_of_pos_right n (show 0 < b by omega)
  omega
theorem small_le {n : Nat} (h : n ≤ reachBytes) : n ≤ 140737488355328 := Nat.le_trans h reach_le
def TinyO (o : Opt) : Prop := o.val.length ≤ 140737488355328
def ReadM (m : Msg) : Prop := m.tok.length ≤ 140737488355328 ∧ ((∀ o ∈ m.opts, TinyO o) ∧ m.opts.length ≤ 140737488355328) ∧ m.pay.length ≤ 140737488355328
theorem ReadM.bd {m : Msg} (h : ReadM m) : BdM m := ⟨h.1, h.2.1.2, h.2.2⟩
theorem ReadM.sm {m : Msg} (h : ReadM m) (h20 : m.opts.length ≤ 20) : SmM m := ⟨h.1, h.2.2, Nat.le_trans h20 (by omega), h.2.1.1⟩
def ReadH (h : Hd) : Prop := BdM h.m
theorem rdZInt : RdZ Try.prog 3 (fun z : Int => [.val (.int .i64 z)]) (fun z => (Lit.int .i64 z).wf = true) := (RdC.int Try.underlying3 (by kernel_rfl)).z
theorem rdZBool : RdZ Try.prog 4 (fun z : Bool => [.val (.bool z)]) (fun z => True) := (RdC.bool Try.underlying4 (by kernel_rfl)).z
theorem rdZBytes : RdZ Try.prog 28 (fun l : List UInt8 => [roB l]) (fun l => l.length ≤ reachBytes) := RdZ.bytes Try.underlying28 Try.underlying5 (by kernel_rfl) (by kernel_rfl) (by kernel_rfl)
theorem rdZOpt : RdZ Try.prog 88 cellsO TinyO :=
  (RdZ.struct Try.underlying88 (by kernel_rfl)
    (.cons (k := 1) rdZInt rfl (by kernel_rfl)
    (.cons (k := 1) rdZBytes rfl (by kernel_rfl) .nil))).map
    (fun p => ⟨p.1, p.2.1⟩) (fun p h => ⟨small_le h.2.1, rfl⟩) (fun _ => by show 2 = _; kernel_rfl)
theorem rdZMsg : RdZ Try.prog 31 cellsM ReadM :=
  (RdZ.struct Try.underlying31 (by kernel_rfl)
    (.cons (k := 1) rdZInt rfl (by kernel_rfl)
    (.cons (k := 1) rdZInt rfl (by kernel_rfl)
    (.cons (k := 1) rdZInt rfl (by kernel_rfl)
    (.cons (k := 1) rdZBytes rfl (by kernel_rfl)
    (.cons (k := 1) (RdZ.slice Try.underlying29 (by kernel_rfl) (of_decide_eq_true (by kernel_rfl)) rdZOpt) rfl (by kernel_rfl)
    (.cons (k := 1) rdZBytes rfl (by kernel_rfl) .nil))))))).map
    (fun p => ⟨p.1, p.2.1, p.2.2.1, p.2.2.2.1, p.2.2.2.2.1, p.2.2.2.2.2.1⟩)
    (fun p h => ⟨⟨small_le h.2.2.2.1, ⟨h.2.2.2.2.1.1, small_of (k := 32) (by kernel_rfl) (by omega) h.2.2.2.2.1.2⟩, small_le h.2.2.2.2.2.1⟩, rfl⟩) (fun _ => by show 6 = _; kernel_rfl)
theorem rdZWt : RdZ Try.prog 71 cellsW (fun _ => True) :=
  (RdZ.struct Try.underlying71 (by kernel_rfl)
    (.cons (k := 1) rdZInt rfl (by kernel_rfl)
    (.cons (k := 6) rdZMsg rfl (by kernel_rfl)
    (.cons (k := 1) rdZInt rfl (by kernel_rfl)
    (.cons (k := 1) rdZInt rfl (by kernel_rfl) .nil))))).map
    (fun p => ⟨p.1, p.2.1, p.2.2.1, p.2.2.2.1⟩) (fun p h => ⟨trivial, rfl⟩) (fun _ => by show 9 = _; kernel_rfl)
theorem rdZUs : RdZ Try.prog 60 cellsU (fun _ => True) :=
  (RdZ.struct Try.underlying60 (by kernel_rfl)
    (.cons (k := 1) rdZInt rfl (by kernel_rfl)
    (.cons (k := 1) rdZInt rfl (by kernel_rfl)
    (.cons (k := 1) rdZInt rfl (by kernel_rfl) .nil)))).map
    (fun p => ⟨p.1, p.2.1, p.2.2.1⟩) (fun p h => ⟨trivial, rfl⟩) (fun _ => by show 3 = _; kernel_rfl)
theorem rdZHd : RdZ Try.prog 63 cellsH ReadH :=
  (RdZ.struct Try.underlying63 (by kernel_rfl)
    (.cons (k := 1) rdZInt rfl (by kernel_rfl)
    (.cons (k := 1) rdZInt rfl (by kernel_rfl)
    (.cons (k := 1) rdZInt rfl (by kernel_rfl)
    (.cons (k := 1) rdZBool rfl (by kernel_rfl)
    (.cons (k := 6) rdZMsg rfl (by kernel_rfl) .nil)))))).map
    (fun p => ⟨p.1, p.2.1, p.2.2.1, p.2.2.2.1, p.2.2.2.2.1⟩) (fun p h => ⟨h.2.2.2.2.1.bd, rfl⟩) (fun _ => by show 10 = _; kernel_rfl)
theorem rdZEp : RdZ Try.prog 26 (fun e : Ep => [.val (.int .i64 e.next), roW e.out, roU e.used, roH e.inn]) BdE :=
  (RdZ.struct Try.underlying26 (by kernel_rfl)
    (.cons (k := 1) rdZInt rfl (by kernel_rfl)
    (.cons (k := 1) (RdZ.slice Try.underlying22 (by kernel_rfl) (of_decide_eq_true (by kernel_rfl)) rdZWt) rfl (by kernel_rfl)
    (.cons (k := 1) (RdZ.slice Try.underlying23 (by kernel_rfl) (of_decide_eq_true (by kernel_rfl)) rdZUs) rfl (by kernel_rfl)
    (.cons (k := 1) (RdZ.slice Try.underlying24 (by kernel_rfl) (of_decide_eq_true (by kernel_rfl)) rdZHd) rfl (by kernel_rfl) .nil))))).map
    (fun p => ⟨p.1, p.2.1, p.2.2.1, p.2.2.2.1⟩)
    (fun p h => ⟨⟨small_of (k := 120) (by kernel_rfl) (by omega) h.2.1.2, small_of (k := 24) (by kernel_rfl) (by omega) h.2.2.1.2, small_of (k := 128) (by kernel_rfl) (by omega) h.2.2.2.1.2, h.2.2.2.1.1⟩, rfl⟩) (fun _ => by show 4 = _; kernel_rfl)
end Go.Proofs.Ytdnmilmcdbgppaa.By
