/-
  TopUpload, the statement: for every input the law returns true, and its arguments read as before. No condition.
-/
import Derived.Test.YtoonnnifelnaiaaGreatDoorRows
import Derived.Lay
import Derived.LaidOnce
import Derived.MakeChecks
import Derived.Test.YtoonnnifelnaiaaGreatDoorZ5
namespace Go.Proofs.YtoonnnifelnaiaaGreatDoor.By
open Go.RowKit L A Dk
set_option linter.unusedVariables false
set_option maxRecDepth 20000
set_option linter.unusedSimpArgs false
attribute [local irreducible] AW AQ AO
theorem upF0_val {body : List UInt8} {sz : Int} {n : Nat} {i : Int} (hn : n ≤ 64) (hi : 0 ≤ i ∧ i ≤ 65535) : ValM ⟨0, 3, 0, [], [⟨27, fromU (valB sz i (moreB body n i.toNat))⟩], cutB body n i.toNat⟩ := (upF_val (body := body) (sz := sz) hn hi).withId (id := 0) ⟨by omega, by omega⟩
set_option maxRecDepth 100000 in
set_option maxHeartbeats 8000000 in
theorem topUpload_fn (body : List UInt8) (l : List Int) (x : Int) (hb0 : body.length ≤ maxLen) (hl : l.length ≤ maxLen) : SpK GN Tryz.prog 5 [roB body, roI l, .val (.int .i64 x)] [] (Is (.val (.bool true))) := by
 refine SpK.enter Tryz.func5 rfl _ Tryz.ntmps5 rfl (fun w0 R0 hK => ?_)
 refine AW.seq ?_
 refine AW.region ?_
 refine AO.op (O.assign rfl rfl) rfl rfl rfl ?_
 refine AO.nil ?_
 refine AQ.thenN ?_
 refine AW.seq ?_
 refine AW.seq ?_
 refine AW.region ?_
 refine AO.op (O.move rfl rfl) rfl rfl rfl ?_
 refine AO.op (O.lenR rfl rfl) rfl rfl rfl ?_
 refine AO.op (O.gtr rfl rfl rfl (by rfl)) rfl rfl rfl ?_
 refine AO.op (O.move rfl rfl) rfl rfl rfl ?_
 refine AO.opG rfl rfl rfl (fun hp => O.move rfl rfl) ?_
 refine AO.opG rfl rfl rfl (fun hp => OpW.force 60 rfl (by exact hp) (O.call rfl Tryz.func7 rfl rfl rfl (fewT_fn _))) ?_
 refine AO.opG rfl rfl rfl (fun hp => OpW.force 61 rfl (by exact hp) (O.not rfl rfl (by rfl))) ?_
 refine AO.op (O.pickOr rfl rfl rfl rfl (fun h => by exact congrArg (fun b => !b) h)) rfl rfl rfl ?_
 refine AO.nil ?_
 refine AQ.thenN ?_
 refine AW.split rfl (fun hfew => ?_) (fun hfew => ?_) <;> (try simp only [decide_eq_true_eq, decide_eq_false_iff_not, beq_iff_eq, beq_eq_false_iff_ne, bne_iff_ne, bne_eq_false_iff_eq, Bool.not_eq_true', Bool.not_eq_false', Bool.not_eq_true, Bool.not_eq_false, ne_eq, Int.not_lt, Int.not_le, Bool.and_eq_true, Bool.or_eq_true, Bool.or_eq_false_iff, Bool.and_eq_false_imp, strOf_toList, Decidable.not_not] at hfew)
 ·skip
  refine AW.seq ?_
  refine AW.region ?_
  refine AO.callK hK notFoot_nil rfl rfl Tryz.func8 rfl rfl rfl rfl rfl (awakeT_fn) ?_
  refine AO.op (O.assign rfl rfl) rfl rfl rfl ?_
  refine AO.nil ?_
  refine AQ.thenN ?_
  refine AW.ret ?_
  refine AQ.thenR ?_
  refine AQ.ret1 rfl rfl ⟨_, List.nil_sublist _, .nil⟩ (⟨rfl, rfl⟩)
 ·skip
  obtain ⟨hb, hl3⟩ : body.length ≤ 300 ∧ l.length ≤ 300 := by omega
  obtain ⟨sz, hsz⟩ : ∃ sz, sz = x % 3 := ⟨_, rfl⟩
  have hs : 0 ≤ sz ∧ sz ≤ 2 := by omega
  have hmod : Sp Tryz.prog 11 [.val (.int .i64 x), .val (.int .i64 3)] [] (Is (.val (.int .i64 sz))) := by
   rw [hsz]; exact mod_fn x 3 (by omega) (by omega)
  have hzn := szN_in hs
  obtain ⟨F, hF⟩ : ∃ F, F = upF body sz (szN sz) := ⟨_, rfl⟩
  obtain ⟨R, hR⟩ : ∃ R, R = upR body sz (szN sz) := ⟨_, rfl⟩
  have hFi : ∀ i, (F i).id = i := fun i => by rw [hF]
  have hFv : ∀ i, 0 ≤ i ∧ i ≤ 65535 → ValM (F i) := fun i hi => by rw [hF]; exact upF_val hzn.2 hi
  have hRv : ∀ i, 0 ≤ i ∧ i ≤ 65535 → ValM (R i) := fun i hi => by rw [hR]; exact upR_val hi
  refine AW.skip ?_
  refine AQ.thenN ?_
  refine AW.seq ?_
  refine AW.region ?_
  refine AO.op (O.move rfl rfl) rfl rfl rfl ?_
  refine AO.opB (O.call rfl Tryz.func9 rfl rfl rfl (new_fn _)) rfl rfl rfl ?_
  intro B1
  refine AO.op (O.assign rfl rfl) rfl rfl rfl ?_
  refine AO.nil ?_
  refine AQ.thenN ?_
  refine AW.seq ?_
  refine AW.region ?_
  refine AO.op (O.move rfl rfl) rfl rfl rfl ?_
  refine AO.op (O.call rfl Tryz.func11 rfl rfl rfl (hmod)) rfl rfl rfl ?_
  refine AO.op (O.assign rfl rfl) rfl rfl rfl ?_
  refine AO.nil ?_
  refine AQ.thenN ?_
  refine AW.seq ?_
  refine AW.region ?_
  refine AO.opB (O.alloc rfl (by (dsimp only [List.set, List.append, List.cons_append, List.nil_append, roB_cells, roI_cells, roO_cells, roW_cells, roU_cells, roH_cells, roPt_cells, splice, ofConst, AV.cells, List.map, List.map_cons, List.map_nil, List.take, List.drop, Nat.zero_add, Nat.add_zero, Nat.reduceAdd, Nat.reduceMul, Nat.zero_mul, Value.cells, List.toList_toArray, zerosA, List.replicate, List.flatten, List.append_nil]; done)) (by rfl)) rfl rfl rfl ?_
  intro B2
  refine AO.opB (O.alloc rfl (by (dsimp only [List.set, List.append, List.cons_append, List.nil_append, roB_cells, roI_cells, roO_cells, roW_cells, roU_cells, roH_cells, roPt_cells, splice, ofConst, AV.cells, List.map, List.map_cons, List.map_nil, List.take, List.drop, Nat.zero_add, Nat.add_zero, Nat.reduceAdd, Nat.reduceMul, Nat.zero_mul, Value.cells, List.toList_toArray, zerosA, List.replicate, List.flatten, List.append_nil]; done)) (by rfl)) rfl rfl rfl ?_
  intro B3
  refine AO.nil ?_
  refine AQ.thenN ?_
  refine AW.seq ?_
  refine AW.region ?_
  refine AO.op (O.assign rfl rfl) rfl rfl rfl ?_
  refine AO.op (O.assign rfl rfl) rfl rfl rfl ?_
  refine AO.nil ?_
  refine AQ.thenN ?_
  refine AW.seq ?_
  refine AW.region ?_
  refine AO.op (O.assign rfl rfl) rfl rfl rfl ?_
  refine AO.nil ?_
  refine AQ.thenN ?_
  refine AW.seq ?_
  refine AW.region ?_
  refine AO.op (O.assign rfl rfl) rfl rfl rfl ?_
  refine AO.op (O.assign rfl rfl) rfl rfl rfl ?_
  refine AO.op (O.assign rfl rfl) rfl rfl rfl ?_
  refine AO.op (O.assign rfl rfl) rfl rfl rfl ?_
  refine AO.nil ?_
  refine AQ.thenN ?_
  refine AW.seq ?_
  refine AW.region ?_
  refine AO.op (O.assign rfl rfl) rfl rfl rfl ?_
  refine AO.nil ?_
  refine AQ.thenN ?_
  refine AW.seq ?_
  refine AW.block ?_
  refine AW.g ?_
  refine G.nilRow 78 9 ?_
  refine AW.u ?_
  refine AW.g ?_
  refine G.freezeCell 0 0 1 rfl rfl rfl ?_
  refine AW.u ?_
  dsimp only [List.eraseIdx, List.set]
  refine AW.g ?_
  refine G.nilRow 122 3 ?_
  refine AW.u ?_
  refine AW.g ?_
  refine G.freezeCell 0 0 2 rfl rfl rfl ?_
  refine AW.u ?_
  dsimp only [List.eraseIdx, List.set]
  refine AW.g ?_
  refine G.nilRow 126 10 ?_
  refine AW.u ?_
  refine AW.g ?_
  refine G.freezeCell 0 0 3 rfl rfl rfl ?_
  refine AW.u ?_
  dsimp only [List.eraseIdx, List.set]
  refine AW.g ?_
  refine G.nilRow 78 9 ?_
  refine AW.u ?_
  refine AW.g ?_
  refine G.freezeCell 0 1 1 rfl rfl rfl ?_
  refine AW.u ?_
  dsimp only [List.eraseIdx, List.set]
  refine AW.g ?_
  refine G.nilRow 122 3 ?_
  refine AW.u ?_
  refine AW.g ?_
  refine G.freezeCell 0 1 2 rfl rfl rfl ?_
  refine AW.u ?_
  dsimp only [List.eraseIdx, List.set]
  refine AW.g ?_
  refine G.nilRow 126 10 ?_
  refine AW.u ?_
  refine AW.g ?_
  refine G.freezeCell 0 1 3 rfl rfl rfl ?_
  refine AW.u ?_
  dsimp only [List.eraseIdx, List.set]
  refine AW.g ?_
  refine G.nilRo 12 rfl ?_
  refine AW.u ?_
  try dsimp only [List.map, List.eraseIdx, List.cons_append, List.nil_append]
  refine AW.g ?_
  refine G.nilRow 45 7 ?_
  refine AW.u ?_
  refine AW.g ?_
  refine G.nilRow 45 7 ?_
  refine AW.u ?_
  refine AW.loopK [(0, _), (2, _), (7, _), (8, _), (9, _)] (fun nn E H => ∃ (kk : Nat) (now last : Int) (num k : Nat) (done c : Int) (w : Bool) (a b : Ep) (net back : List Pk) (ps : List Pt) (V V' : Value), (kk ≤ l.length) ∧ (CliU a F num w) ∧ ((w = true ∧ c = (num : Int) + 1) ∨ (w = false ∧ c = (num : Int))) ∧ (ValE b) ∧ (SrvG b R (upD k)) ∧ (Kept b (upD k) net now) ∧ (NetF F net c now) ∧ (BackU R back (k : Int)) ∧ (SrvP body (szN sz) k ps last done) ∧ (num ≤ k ∧ (k : Int) ≤ c) ∧ ((∀ i : Nat, (i : Int) < c → hasB body (szN sz) i)) ∧ (num ≤ kk) ∧ (net.length ≤ 20 * kk) ∧ (back.length ≤ kk) ∧ (0 ≤ last ∧ last ≤ now) ∧ (0 ≤ now ∧ now ≤ 3 * (kk : Int)) ∧ (V.oneCell' = true) ∧ (V'.oneCell' = true) ∧ nn = l.length - kk ∧ E = [(10, .val V), (11, .val V'), (12, roPt ps), (13, .val (.int .i64 now)), (14, .val (.int .i64 last)), (15, .val (.int .i64 (num : Int))), (16, .val (.int .i64 done)), (17, .val (.bool w))] ∧ H = [.row V 45 7 net.length (pksA net), .row V' 45 7 back.length (pksA back), .blk B3 56 4 [.val (.int .i64 b.next), roW b.out, roU b.used, roH b.inn], .blk B2 56 4 [.val (.int .i64 a.next), roW a.out, roU a.used, roH a.inn], deck B1 l kk]) _ (⟨0, 0, 0, 0, 0, 0, 0, false, ⟨0, [], [], []⟩, ⟨0, [], [], []⟩, [], [], [], .slice none 0 0, .slice none 0 0, by omega, cliU_new F, .inr ⟨rfl, rfl⟩, val_new ⟨by omega, by omega⟩, (fun h hh => by cases hh), (fun q hq => by cases hq), (fun q hq => by cases hq), (fun q hq => by cases hq), srvP_new _ _, ⟨by omega, by omega⟩, (fun i hi => by omega), by omega, by simp, by simp, ⟨by omega, by omega⟩, ⟨by omega, by omega⟩, rfl, rfl, rfl, rfl, rfl⟩) (by repeat (first | exact envNil | refine envCons rfl ?_)) (by repeat (first | exact envNil | refine envCons rfl ?_)) (by repeat (first | exact subPnil | refine subPcons 0 rfl ?_)) ?_
  rintro nn E H ⟨kk, now, last, num, k, done, c, w, a, b, net, back, ps, V, V', hk, hA, hc, hvb, hB, hkp, hnet, hbk, hS, hnk, hhas, hnn, hnl, hbl, hla, hn, hV, hV', rfl, rfl, rfl⟩
  dsimp only [List.cons_append, List.nil_append]
  have hbdA := (ValE.sm hA.v).bd
  have hbdB := (ValE.sm hvb).bd
  have hdn := hS.done_le
  refine AW.seq ?_
  refine AW.seq ?_
  refine AW.region ?_
  refine AO.op (O.move rfl rfl) rfl rfl rfl ?_
  (refine AO.callM1 (i := 4) rfl rfl Tryz.func12 rfl rfl rfl rfl rfl rfl (left_fn _ _ _) (by (dsimp only [List.set, List.append, List.cons_append, List.nil_append, roB_cells, roI_cells, roO_cells, roW_cells, roU_cells, roH_cells, roPt_cells, splice, ofConst, AV.cells, List.map, List.map_cons, List.map_nil, List.take, List.drop, Nat.zero_add, Nat.add_zero, Nat.reduceAdd, Nat.reduceMul, Nat.zero_mul, Value.cells, List.toList_toArray, zerosA, List.replicate, List.flatten, List.append_nil]; done)) ?_)
  refine AO.nil ?_
  refine AQ.thenN ?_
  refine AW.split rfl (fun hleft => ?_) (fun hleft => ?_) <;> (try simp only [decide_eq_true_eq, decide_eq_false_iff_not, beq_iff_eq, beq_eq_false_iff_ne, bne_iff_ne, bne_eq_false_iff_eq, Bool.not_eq_true', Bool.not_eq_false', Bool.not_eq_true, Bool.not_eq_false, ne_eq, Int.not_lt, Int.not_le, Bool.and_eq_true, Bool.or_eq_true, Bool.or_eq_false_iff, Bool.and_eq_false_imp, strOf_toList, Decidable.not_not] at hleft)
  ·skip
   have ha1 := adv_in hleft
   have ha1' : adv l kk ≤ l.length := adv_le' hk
   have ha2 := adv_ge l (adv l kk)
   have ha2' : adv l (adv l kk) ≤ l.length := adv_le' ha1'
   have hz1 := nxt_in l kk (n := 3) (by omega)
   have hz2 := nxt_in l (adv l kk) (n := 4) (by omega)
   obtain ⟨cu, mo, ce, hcut, hcx⟩ := cut_any body num sz hs hb (by omega)
   refine AW.skip ?_
   refine AQ.thenN ?_
   refine AW.block ?_
   refine AW.seq ?_
   refine AW.region ?_
   refine AO.op (O.move rfl rfl) rfl rfl rfl ?_
   refine AO.op (O.move rfl rfl) rfl rfl rfl ?_
   (refine AO.callM1 (i := 4) rfl rfl Tryz.func13 rfl rfl rfl rfl rfl rfl (next_fn _ _ _ _ hl (by repeat (assumption)) (by omega) (by omega)) (by (dsimp only [List.set, List.append, List.cons_append, List.nil_append, roB_cells, roI_cells, roO_cells, roW_cells, roU_cells, roH_cells, roPt_cells, splice, ofConst, AV.cells, List.map, List.map_cons, List.map_nil, List.take, List.drop, Nat.zero_add, Nat.add_zero, Nat.reduceAdd, Nat.reduceMul, Nat.zero_mul, Value.cells, List.toList_toArray, zerosA, List.replicate, List.flatten, List.append_nil]; done)) ?_)
   refine AO.op (O.add rfl rfl rfl (by exact wI64 (by omega))) rfl rfl rfl ?_
   refine AO.op (O.assign rfl rfl) rfl rfl rfl ?_
   refine AO.nil ?_
   refine AQ.thenN ?_
   refine AW.seq ?_
   refine AW.region ?_
   refine AO.op (O.move rfl rfl) rfl rfl rfl ?_
   refine AO.op (O.move rfl rfl) rfl rfl rfl ?_
   refine AO.op (O.move rfl rfl) rfl rfl rfl ?_
   refine AO.op (O.call rfl Tryz.func24 rfl rfl rfl (hcut)) rfl rfl rfl ?_
   refine AO.op (O.move rfl rfl) rfl rfl rfl ?_
   refine AO.op (O.extract rfl rfl rfl) rfl rfl rfl ?_
   refine AO.op (O.extract rfl rfl rfl) rfl rfl rfl ?_
   refine AO.op (O.extract rfl rfl rfl) rfl rfl rfl ?_
   refine AO.op (O.assign rfl rfl) rfl rfl rfl ?_
   refine AO.op (O.assign rfl rfl) rfl rfl rfl ?_
   refine AO.op (O.assign rfl rfl) rfl rfl rfl ?_
   refine AO.nil ?_
   refine AQ.thenN ?_
   refine AW.seq ?_
   refine AW.seq ?_
   refine AW.region ?_
   refine AO.op (O.move rfl rfl) rfl rfl rfl ?_
   refine AO.op (O.not rfl rfl (by rfl)) rfl rfl rfl ?_
   refine AO.op (O.move rfl rfl) rfl rfl rfl ?_
   refine AO.opG rfl rfl rfl (fun hp => O.move rfl rfl) ?_
   refine AO.opG rfl rfl rfl (fun hp => OpW.force 86 rfl (by exact hp) (O.eql rfl rfl rfl (by rfl))) ?_
   refine AO.op (O.pickAnd rfl rfl rfl rfl (fun h => by exact h)) rfl rfl rfl ?_
   refine AO.nil ?_
   refine AQ.thenN ?_
   generalize hne : now + nxt l kk 3 = now2 at *
   have hn3 : now ≤ now2 ∧ 0 ≤ now2 ∧ now2 ≤ 3 * (kk : Int) + 2 := by omega
   have hto : TimeOk now2 := ⟨by omega, by omega⟩
   have hnet2 := hnet.later (Int.le_refl _) hn3.1
   have hkp2 := hkp.later hn3.1
   refine AW.joinI [(0, _), (2, _), (7, _), (8, _), (9, _), (11, _), (12, _), (13, _), (14, _), (15, _), (16, _)] (fun E H => ∃ (a2 : Ep) (net2 : List Pk) (w2 : Bool) (c2 : Int) (Vn : Value), (CliU a2 F num w2) ∧ ((w2 = true ∧ c2 = (num : Int) + 1) ∨ (w2 = false ∧ c2 = (num : Int))) ∧ (NetF F net2 c2 now2) ∧ (Kept b (upD k) net2 now2) ∧ (num ≤ k ∧ (k : Int) ≤ c2) ∧ ((∀ i : Nat, (i : Int) < c2 → hasB body (szN sz) i)) ∧ (net2.length ≤ 20 * kk + 1) ∧ (Vn.oneCell' = true) ∧ E = [(10, .val Vn), (17, .val (.bool w2))] ∧ H = [.row Vn 45 7 net2.length (pksA net2), .row V' 45 7 back.length (pksA back), .blk B3 56 4 [.val (.int .i64 b.next), roW b.out, roU b.used, roH b.inn], .blk B2 56 4 [.val (.int .i64 a2.next), roW a2.out, roU a2.used, roH a2.inn], deck B1 l (adv l kk)]) rfl (by repeat (first | exact envNil | refine envCons rfl ?_)) (fun hsend => ?_) (fun hsend => ?_) ?_ <;> try (try simp only [decide_eq_true_eq, decide_eq_false_iff_not, beq_iff_eq, beq_eq_false_iff_ne, bne_iff_ne, bne_eq_false_iff_eq, Bool.not_eq_true', Bool.not_eq_false', Bool.not_eq_true, Bool.not_eq_false, ne_eq, Int.not_lt, Int.not_le, Bool.and_eq_true, Bool.or_eq_true, Bool.or_eq_false_iff, Bool.and_eq_false_imp, strOf_toList, Decidable.not_not] at hsend)
   ·skip
    obtain ⟨rfl, rfl⟩ := hsend
    obtain ⟨-, hhb, hcu, hmo⟩ := hcx.resolve_right (by omega)
    have hcn : c = (num : Int) := by
     rcases hc with ⟨h, -⟩ | ⟨-, h⟩
     ·cases h
     ·exact h
    obtain ⟨vv, hvv⟩ : ∃ vv, vv = fromU (valB sz (num : Int) mo) := ⟨_, rfl⟩
    have hval := bvalue_fn num mo sz ⟨by omega, by omega⟩ hs
    rw [← hvv] at hval
    have hsd := up_send (F := F) (m := ⟨0, 3, 0, [], [⟨27, vv⟩], cu⟩) (now := now2) hA (by omega) hto (by
     have := upF0_val (body := body) (sz := sz) (n := szN sz) (i := (num : Int)) hzn.2 ⟨by omega, by omega⟩
     rw [hvv, hcu, hmo]; exact this) rfl (by rw [hF, hvv, hcu, hmo]; rfl)
    refine AW.seq ?_
    refine AW.region ?_
    refine AO.op (O.move rfl rfl) rfl rfl rfl ?_
    refine AO.op (O.move rfl rfl) rfl rfl rfl ?_
    refine AO.op (O.move rfl rfl) rfl rfl rfl ?_
    refine AO.op (O.build rfl rfl rfl (by rfl)) rfl rfl rfl ?_
    refine AO.op (O.call rfl Tryz.func25 rfl rfl rfl (hval)) rfl rfl rfl ?_
    refine AO.op (O.move rfl rfl) rfl rfl rfl ?_
    refine AO.op (O.extract rfl rfl rfl) rfl rfl rfl ?_
    refine AO.op (O.extract rfl rfl rfl) rfl rfl rfl ?_
    refine AO.op (O.assign rfl rfl) rfl rfl rfl ?_
    refine AO.op (O.assign rfl rfl) rfl rfl rfl ?_
    refine AO.nil ?_
    refine AQ.thenN ?_
    refine AW.seq ?_
    refine AW.region ?_
    (refine AO.op (O.loadK rfl rfl (by repeat (first | exact List.Mem.head _ | refine List.Mem.tail _ ?_)) (by (dsimp only [List.set, List.append, List.cons_append, List.nil_append, roB_cells, roI_cells, roO_cells, roW_cells, roU_cells, roH_cells, roPt_cells, splice, ofConst, AV.cells, List.map, List.map_cons, List.map_nil, List.take, List.drop, Nat.zero_add, Nat.add_zero, Nat.reduceAdd, Nat.reduceMul, Nat.zero_mul, Value.cells, List.toList_toArray, zerosA, List.replicate, List.flatten, List.append_nil]; done)) (by rfl)) rfl rfl rfl ?_)
    refine AO.op (O.move rfl rfl) rfl rfl rfl ?_
    refine AO.op (O.build rfl rfl rfl (by rfl)) rfl rfl rfl ?_
    refine AO.opB (O.buildSlice rfl rfl rfl (by rfl) (by rfl) (by rfl) (by rfl)) rfl rfl rfl ?_
    intro B4
    refine AO.g ?_
    (refine G.freezeSl 0 101 rfl rfl ⟨Nat.le_refl _, by unfold maxLen; omega⟩ ?_)
    refine G.unfull 101 rfl ?_
    refine AO.u ?_
    dsimp only [List.eraseIdx]
    refine AO.op (O.move rfl rfl) rfl rfl rfl ?_
    refine AO.op (O.build rfl rfl rfl (by rfl)) rfl rfl rfl ?_
    refine AO.op (O.move rfl rfl) rfl rfl rfl ?_
    (refine AO.op (O.callC rfl Tryz.func20 rfl rfl rfl (send_fn a _ ⟨0, 3, 0, [], [⟨27, vv⟩], cu⟩ _ hbdA) (by (repeat (first | exact CoeL.nil | refine CoeL.cons Coe.rfl ?_ | refine CoeL.cons Coe.nil ?_ | refine CoeL.cons (Coe.agg ?_) ?_)); done)) rfl rfl rfl ?_)
    refine AO.op (O.move rfl rfl) rfl rfl rfl ?_
    refine AO.op (O.extract rfl rfl rfl) rfl rfl rfl ?_
    refine AO.op (O.extract rfl rfl rfl) rfl rfl rfl ?_
    refine AO.op (O.extract rfl rfl rfl) rfl rfl rfl ?_
    refine AO.opB (O.alloc rfl (by (dsimp only [List.set, List.append, List.cons_append, List.nil_append, roB_cells, roI_cells, roO_cells, roW_cells, roU_cells, roH_cells, roPt_cells, splice, ofConst, AV.cells, List.map, List.map_cons, List.map_nil, List.take, List.drop, Nat.zero_add, Nat.add_zero, Nat.reduceAdd, Nat.reduceMul, Nat.zero_mul, Value.cells, List.toList_toArray, zerosA, List.replicate, List.flatten, List.append_nil]; done)) (by rfl)) rfl rfl rfl ?_
    intro B5
    refine AO.opB (O.alloc rfl (by (dsimp only [List.set, List.append, List.cons_append, List.nil_append, roB_cells, roI_cells, roO_cells, roW_cells, roU_cells, roH_cells, roPt_cells, splice, ofConst, AV.cells, List.map, List.map_cons, List.map_nil, List.take, List.drop, Nat.zero_add, Nat.add_zero, Nat.reduceAdd, Nat.reduceMul, Nat.zero_mul, Value.cells, List.toList_toArray, zerosA, List.replicate, List.flatten, List.append_nil]; done)) (by rfl)) rfl rfl rfl ?_
    intro B6
    (refine AO.store (i := 1) rfl rfl rfl rfl rfl rfl (by rfl) (by rfl) (by rfl) (by (dsimp only [List.set, List.append, List.cons_append, List.nil_append, roB_cells, roI_cells, roO_cells, roW_cells, roU_cells, roH_cells, roPt_cells, splice, ofConst, AV.cells, List.map, List.map_cons, List.map_nil, List.take, List.drop, Nat.zero_add, Nat.add_zero, Nat.reduceAdd, Nat.reduceMul, Nat.zero_mul, Value.cells, List.toList_toArray, zerosA, List.replicate, List.flatten, List.append_nil]; done)) (by (dsimp only [List.set, List.append, List.cons_append, List.nil_append, roB_cells, roI_cells, roO_cells, roW_cells, roU_cells, roH_cells, roPt_cells, splice, ofConst, AV.cells, List.map, List.map_cons, List.map_nil, List.take, List.drop, Nat.zero_add, Nat.add_zero, Nat.reduceAdd, Nat.reduceMul, Nat.zero_mul, Value.cells, List.toList_toArray, zerosA, List.replicate, List.flatten, List.append_nil]; done)) ?_)
    (refine AO.store (i := 0) rfl rfl rfl rfl rfl rfl (by rfl) (by rfl) (by rfl) (by (dsimp only [List.set, List.append, List.cons_append, List.nil_append, roB_cells, roI_cells, roO_cells, roW_cells, roU_cells, roH_cells, roPt_cells, splice, ofConst, AV.cells, List.map, List.map_cons, List.map_nil, List.take, List.drop, Nat.zero_add, Nat.add_zero, Nat.reduceAdd, Nat.reduceMul, Nat.zero_mul, Value.cells, List.toList_toArray, zerosA, List.replicate, List.flatten, List.append_nil]; done)) (by (dsimp only [List.set, List.append, List.cons_append, List.nil_append, roB_cells, roI_cells, roO_cells, roW_cells, roU_cells, roH_cells, roPt_cells, splice, ofConst, AV.cells, List.map, List.map_cons, List.map_nil, List.take, List.drop, Nat.zero_add, Nat.add_zero, Nat.reduceAdd, Nat.reduceMul, Nat.zero_mul, Value.cells, List.toList_toArray, zerosA, List.replicate, List.flatten, List.append_nil]; done)) ?_)
    refine AO.op (O.assign rfl rfl) rfl rfl rfl ?_
    refine AO.nil ?_
    refine AQ.thenN ?_
    refine AW.seq ?_
    refine AW.seq ?_
    refine AW.region ?_
    refine AO.op (O.move rfl rfl) rfl rfl rfl ?_
    refine AO.op (O.neq rfl rfl rfl (by exact bne_eq_false_iff_eq.2 (by omega))) rfl rfl rfl ?_
    refine AO.op (O.move rfl rfl) rfl rfl rfl ?_
    refine AO.op (O.move rfl rfl) rfl rfl rfl ?_
    refine AO.op (O.neq rfl rfl rfl (by rfl)) rfl rfl rfl ?_
    refine AO.op (O.move rfl rfl) rfl rfl rfl ?_
    refine AO.opG rfl rfl rfl (fun hp => O.move rfl rfl) ?_
    refine AO.opG rfl rfl rfl (fun hp => OpW.force 115 rfl (by exact hp) (O.neq rfl rfl rfl (by rfl))) ?_
    refine AO.op (O.pickAnd rfl rfl rfl rfl (fun h => by exact h)) rfl rfl rfl ?_
    refine AO.op (O.pickF rfl rfl rfl) rfl rfl rfl ?_
    refine AO.nil ?_
    refine AQ.thenN ?_
    generalize sendR a 1 ⟨0, 3, 0, [], [⟨27, vv⟩], cu⟩ now2 = s at *
    refine AW.split rfl (fun h118 => ?_) (fun h118 => ?_) <;> (try simp only [decide_eq_true_eq, decide_eq_false_iff_not, beq_iff_eq, beq_eq_false_iff_ne, bne_iff_ne, bne_eq_false_iff_eq, Bool.not_eq_true', Bool.not_eq_false', Bool.not_eq_true, Bool.not_eq_false, ne_eq, Int.not_lt, Int.not_le, Bool.and_eq_true, Bool.or_eq_true, Bool.or_eq_false_iff, Bool.and_eq_false_imp, strOf_toList, Decidable.not_not] at h118)
    ·skip
     exfalso
     rcases hsd with h | ⟨h, -⟩
     ·exact h118.2 h
     ·exact h118.1 h
    ·skip
     refine AW.skip ?_
     refine AQ.thenN ?_
     refine AW.seq ?_
     refine AW.region ?_
     refine AO.op (O.move rfl rfl) rfl rfl rfl ?_
     refine AO.op (O.eql rfl rfl rfl (by rfl)) rfl rfl rfl ?_
     refine AO.nil ?_
     refine AQ.thenN ?_
     refine AW.split rfl (fun h120 => ?_) (fun h120 => ?_) <;> (try simp only [decide_eq_true_eq, decide_eq_false_iff_not, beq_iff_eq, beq_eq_false_iff_ne, bne_iff_ne, bne_eq_false_iff_eq, Bool.not_eq_true', Bool.not_eq_false', Bool.not_eq_true, Bool.not_eq_false, ne_eq, Int.not_lt, Int.not_le, Bool.and_eq_true, Bool.or_eq_true, Bool.or_eq_false_iff, Bool.and_eq_false_imp, strOf_toList, Decidable.not_not] at h120)
     ·skip
      obtain ⟨hs0, hsm, hsA⟩ := hsd.resolve_left (by omega)
      refine AW.regionM [(0, false), (1, false), (2, false), (3, false), (4, false), (5, false), (6, true), (7, true), (8, true), (9, false)] (by kernel_rfl) (by kernel_rfl) (by exact (by exact splitRow 10 2 rfl rfl (by exact splitBlk 8 4 rfl rfl splitNil))) ?_
      dsimp only [List.eraseIdx]
      (refine AM.op rfl (O.loadK rfl rfl (by repeat (first | exact List.Mem.head _ | refine List.Mem.tail _ ?_)) (by (dsimp only [List.set, List.append, List.cons_append, List.nil_append, roB_cells, roI_cells, roO_cells, roW_cells, roU_cells, roH_cells, roPt_cells, splice, ofConst, AV.cells, List.map, List.map_cons, List.map_nil, List.take, List.drop, Nat.zero_add, Nat.add_zero, Nat.reduceAdd, Nat.reduceMul, Nat.zero_mul, Value.cells, List.toList_toArray, zerosA, List.replicate, List.flatten, List.append_nil]; done)) (by rfl)) rfl rfl rfl ?_)
      refine AM.op rfl (O.move rfl rfl) rfl rfl rfl ?_
      (refine AM.op rfl (O.loadK rfl rfl (by repeat (exact List.Mem.head _)) (by (dsimp only [List.set, List.append, List.cons_append, List.nil_append, roB_cells, roI_cells, roO_cells, roW_cells, roU_cells, roH_cells, roPt_cells, splice, ofConst, AV.cells, List.map, List.map_cons, List.map_nil, List.take, List.drop, Nat.zero_add, Nat.add_zero, Nat.reduceAdd, Nat.reduceMul, Nat.zero_mul, Value.cells, List.toList_toArray, zerosA, List.replicate, List.flatten, List.append_nil]; done)) (by rfl)) rfl rfl rfl ?_)
      refine AM.op rfl (O.move rfl rfl) rfl rfl rfl ?_
      refine AM.op rfl (O.build rfl rfl rfl (by rfl)) rfl rfl rfl ?_
      refine AM.op rfl (OpW.frz (O.buildSlice rfl rfl rfl (by rfl) (by rfl) (by rfl) (by rfl)) (by (unfold maxLen; omega))) rfl rfl rfl ?_
      refine AM.main _ rfl (fun w0 R0 => ?_)
      (refine AO.append' (i := 0) rfl rfl rfl rfl (by rfl) (by rfl) rfl rfl rfl (by exact SrcA.ro TyD.ax (by rfl) (Nat.le_of_ble_eq_true rfl)) (by rfl) (by (unfold maxLen; omega)) (by omega) (by (dsimp only [List.set, List.append, List.cons_append, List.nil_append, roB_cells, roI_cells, roO_cells, roW_cells, roU_cells, roH_cells, roPt_cells, splice, ofConst, AV.cells, List.map, List.map_cons, List.map_nil, List.take, List.drop, Nat.zero_add, Nat.add_zero, Nat.reduceAdd, Nat.reduceMul, Nat.zero_mul, Value.cells, List.toList_toArray, zerosA, List.replicate, List.flatten, List.append_nil]; done)) (fun _ => by (dsimp only [List.set]; done)) ?_)
      intro V7 hV7
      refine AM.ok ?_
      dsimp only [putE]
      refine AM.main _ rfl (fun w0 R0 => ?_)
      (refine AO.store (i := 1) rfl rfl rfl rfl rfl rfl (by rfl) (by rfl) (by rfl) (by (dsimp only [List.set, List.append, List.cons_append, List.nil_append, roB_cells, roI_cells, roO_cells, roW_cells, roU_cells, roH_cells, roPt_cells, splice, ofConst, AV.cells, List.map, List.map_cons, List.map_nil, List.take, List.drop, Nat.zero_add, Nat.add_zero, Nat.reduceAdd, Nat.reduceMul, Nat.zero_mul, Value.cells, List.toList_toArray, zerosA, List.replicate, List.flatten, List.append_nil]; done)) (by (dsimp only [List.set, List.append, List.cons_append, List.nil_append, roB_cells, roI_cells, roO_cells, roW_cells, roU_cells, roH_cells, roPt_cells, splice, ofConst, AV.cells, List.map, List.map_cons, List.map_nil, List.take, List.drop, Nat.zero_add, Nat.add_zero, Nat.reduceAdd, Nat.reduceMul, Nat.zero_mul, Value.cells, List.toList_toArray, zerosA, List.replicate, List.flatten, List.append_nil]; done)) ?_)
      refine AM.okN ?_
      dsimp only [putE]
      refine AM.main _ rfl (fun w0 R0 => ?_)
      refine AO.op (O.assign rfl rfl) rfl rfl rfl ?_
      refine AM.ok ?_
      dsimp only [putE]
      refine AM.op rfl (O.assign rfl rfl) rfl rfl rfl ?_
      refine AM.nil ?_
      dsimp only [List.cons_append, List.nil_append]
      obtain ⟨net2, hnet2e⟩ : ∃ g2, g2 = net ++ [(⟨s.2.1, now2⟩ : Pk)] := ⟨_, rfl⟩
      have hgl : net2.length = net.length + 1 := by rw [hnet2e, List.length_append]; rfl
      have hgu : pksA net2 = pksA net ++ [.val (.int .i64 s.2.1.ty), .val (.int .i64 s.2.1.code), .val (.int .i64 s.2.1.id), roB s.2.1.tok, roO s.2.1.opts, roB s.2.1.pay, .val (.int .i64 now2)] := by rw [hnet2e, pksA_snoc]
      have hid : s.2.1.id = (num : Int) := by rw [hsm, hFi]
      have hnet3 : NetF F net2 ((num : Int) + 1) now2 := by
       rw [hnet2e]
       exact (hnet2.later (by omega) (Int.le_refl _)).snoc (i := (num : Int)) ⟨by omega, by omega⟩ hsm ⟨hn3.2.1, Int.le_refl _⟩
      have hkp3 : Kept b (upD k) net2 now2 := by
       rw [hnet2e]
       exact hkp2.snoc (fun hd _ => by
        have h1 := (upD_mem.1 hd).2
        have h2 : (⟨s.2.1, now2⟩ : Pk).m.id = (num : Int) := hid
        omega)
      have hhas3 : ∀ i : Nat, (i : Int) < (num : Int) + 1 → hasB body (szN sz) i := fun i hi => by
       by_cases hi2 : i = num
       ·rw [hi2]; exact hhb
       ·exact hhas i (by omega)
      rw [← hgu, ← hgl]
      refine AQ.midI _ _ (⟨s.1, net2, true, (num : Int) + 1, _, hsA, .inl ⟨rfl, rfl⟩, hnet3, hkp3, ⟨hnk.1, by omega⟩, hhas3, by omega, ‹_›, rfl, rfl⟩) (by repeat (first | exact envNil | refine envCons rfl ?_)) (by repeat (first | exact envNil | refine envCons rfl ?_)) (by repeat (first | exact subPnil | refine subPcons 0 rfl ?_ | refine subPcons 2 rfl ?_ | refine subPcons 3 rfl ?_))
     ·skip
      refine AW.skip ?_
      refine AQ.midI _ _ (⟨a, net, false, c, V, hA, hc, hnet2, hkp2, hnk, hhas, by omega, hV, rfl, rfl⟩) (by repeat (first | exact envNil | refine envCons rfl ?_)) (by repeat (first | exact envNil | refine envCons rfl ?_)) (by repeat (first | exact subPnil | refine subPcons 2 rfl ?_))
   ·skip
    refine AW.skip ?_
    refine AQ.midI _ _ (⟨a, net, w, c, V, hA, hc, hnet2, hkp2, hnk, hhas, by omega, hV, rfl, rfl⟩) (by repeat (first | exact envNil | refine envCons rfl ?_)) (by repeat (first | exact envNil | refine envCons rfl ?_)) (by repeat (first | exact subPnil | refine subPcons 0 rfl ?_))
   rintro E1 H1 ⟨a2, net2, w2, c2, Vn, hA2, hcc2, hnetS, hkpS, hnk2, hhas2, hnl2, hVn, rfl, rfl⟩
   dsimp only [List.cons_append, List.nil_append]
   refine AQ.thenN ?_
   have hbdA2 := (ValE.sm hA2.v).bd
   refine AW.seq ?_
   refine AW.seq ?_
   refine AW.region ?_
   refine AO.op (O.move rfl rfl) rfl rfl rfl ?_
   (refine AO.callM1 (i := 4) rfl rfl Tryz.func13 rfl rfl rfl rfl rfl rfl (next_fn _ _ _ _ hl (by repeat (assumption)) (by omega) (by omega)) (by (dsimp only [List.set, List.append, List.cons_append, List.nil_append, roB_cells, roI_cells, roO_cells, roW_cells, roU_cells, roH_cells, roPt_cells, splice, ofConst, AV.cells, List.map, List.map_cons, List.map_nil, List.take, List.drop, Nat.zero_add, Nat.add_zero, Nat.reduceAdd, Nat.reduceMul, Nat.zero_mul, Value.cells, List.toList_toArray, zerosA, List.replicate, List.flatten, List.append_nil]; done)) ?_)
   refine AO.nil ?_
   refine AQ.thenN ?_
   refine AW.block ?_
   refine AW.seq ?_
   refine AW.region ?_
   refine AO.op (O.eql rfl rfl rfl (by rfl)) rfl rfl rfl ?_
   refine AO.op (O.assign rfl rfl) rfl rfl rfl ?_
   refine AO.nil ?_
   refine AQ.thenN ?_
   generalize hzz : nxt l (adv l kk) 4 = z4 at *
   refine AW.split rfl (fun h0 => ?_) (fun h0 => ?_) <;> (try simp only [decide_eq_true_eq, decide_eq_false_iff_not, beq_iff_eq, beq_eq_false_iff_ne, bne_iff_ne, bne_eq_false_iff_eq, Bool.not_eq_true', Bool.not_eq_false', Bool.not_eq_true, Bool.not_eq_false, ne_eq, Int.not_lt, Int.not_le, Bool.and_eq_true, Bool.or_eq_true, Bool.or_eq_false_iff, Bool.and_eq_false_imp, strOf_toList, Decidable.not_not] at h0)
   ·skip
    have htk := up_tick hA2 hto
    refine AW.seq ?_
    refine AW.region ?_
    (refine AO.op (O.loadK rfl rfl (by repeat (first | exact List.Mem.head _ | refine List.Mem.tail _ ?_)) (by (dsimp only [List.set, List.append, List.cons_append, List.nil_append, roB_cells, roI_cells, roO_cells, roW_cells, roU_cells, roH_cells, roPt_cells, splice, ofConst, AV.cells, List.map, List.map_cons, List.map_nil, List.take, List.drop, Nat.zero_add, Nat.add_zero, Nat.reduceAdd, Nat.reduceMul, Nat.zero_mul, Value.cells, List.toList_toArray, zerosA, List.replicate, List.flatten, List.append_nil]; done)) (by rfl)) rfl rfl rfl ?_)
    refine AO.op (O.move rfl rfl) rfl rfl rfl ?_
    refine AO.op (O.call rfl Tryz.func26 rfl rfl rfl (tick_fn a2 _ hbdA2)) rfl rfl rfl ?_
    refine AO.op (O.move rfl rfl) rfl rfl rfl ?_
    refine AO.op (O.extract rfl rfl rfl) rfl rfl rfl ?_
    refine AO.op (O.extract rfl rfl rfl) rfl rfl rfl ?_
    refine AO.op (O.extract rfl rfl rfl) rfl rfl rfl ?_
    refine AO.op (O.extract rfl rfl rfl) rfl rfl rfl ?_
    refine AO.opB (O.alloc rfl (by (dsimp only [List.set, List.append, List.cons_append, List.nil_append, roB_cells, roI_cells, roO_cells, roW_cells, roU_cells, roH_cells, roPt_cells, splice, ofConst, AV.cells, List.map, List.map_cons, List.map_nil, List.take, List.drop, Nat.zero_add, Nat.add_zero, Nat.reduceAdd, Nat.reduceMul, Nat.zero_mul, Value.cells, List.toList_toArray, zerosA, List.replicate, List.flatten, List.append_nil]; done)) (by rfl)) rfl rfl rfl ?_
    intro B8
    (refine AO.store (i := 0) rfl rfl rfl rfl rfl rfl (by rfl) (by rfl) (by rfl) (by (dsimp only [List.set, List.append, List.cons_append, List.nil_append, roB_cells, roI_cells, roO_cells, roW_cells, roU_cells, roH_cells, roPt_cells, splice, ofConst, AV.cells, List.map, List.map_cons, List.map_nil, List.take, List.drop, Nat.zero_add, Nat.add_zero, Nat.reduceAdd, Nat.reduceMul, Nat.zero_mul, Value.cells, List.toList_toArray, zerosA, List.replicate, List.flatten, List.append_nil]; done)) (by (dsimp only [List.set, List.append, List.cons_append, List.nil_append, roB_cells, roI_cells, roO_cells, roW_cells, roU_cells, roH_cells, roPt_cells, splice, ofConst, AV.cells, List.map, List.map_cons, List.map_nil, List.take, List.drop, Nat.zero_add, Nat.add_zero, Nat.reduceAdd, Nat.reduceMul, Nat.zero_mul, Value.cells, List.toList_toArray, zerosA, List.replicate, List.flatten, List.append_nil]; done)) ?_)
    refine AO.op (O.assign rfl rfl) rfl rfl rfl ?_
    refine AO.op (O.assign rfl rfl) rfl rfl rfl ?_
    refine AO.op (O.assign rfl rfl) rfl rfl rfl ?_
    refine AO.nil ?_
    refine AQ.thenN ?_
    refine AW.seq ?_
    refine AW.seq ?_
    refine AW.region ?_
    refine AO.op (O.move rfl rfl) rfl rfl rfl ?_
    refine AO.op (O.neq rfl rfl rfl (by exact bne_eq_false_iff_eq.2 (by omega))) rfl rfl rfl ?_
    refine AO.nil ?_
    refine AQ.thenN ?_
    generalize tickR a2 now2 = r at *
    refine AW.split rfl (fun h191 => ?_) (fun h191 => ?_) <;> (try simp only [decide_eq_true_eq, decide_eq_false_iff_not, beq_iff_eq, beq_eq_false_iff_ne, bne_iff_ne, bne_eq_false_iff_eq, Bool.not_eq_true', Bool.not_eq_false', Bool.not_eq_true, Bool.not_eq_false, ne_eq, Int.not_lt, Int.not_le, Bool.and_eq_true, Bool.or_eq_true, Bool.or_eq_false_iff, Bool.and_eq_false_imp, strOf_toList, Decidable.not_not] at h191)
    ·skip
     exact absurd h191 (by simp)
    ·skip
     obtain ⟨-, hrA, hrl, hrw⟩ := htk
     refine AW.skip ?_
     refine AQ.thenN ?_
     refine AW.seq ?_
     refine AW.seq ?_
     refine AW.region ?_
     refine AO.op (O.move rfl rfl) rfl rfl rfl ?_
     refine AO.op (O.lenR rfl rfl) rfl rfl rfl ?_
     refine AO.op (O.gtr rfl rfl rfl (by rfl)) rfl rfl rfl ?_
     refine AO.nil ?_
     refine AQ.thenN ?_
     refine AW.split rfl (fun hover => ?_) (fun hover => ?_) <;> (try simp only [decide_eq_true_eq, decide_eq_false_iff_not, beq_iff_eq, beq_eq_false_iff_ne, bne_iff_ne, bne_eq_false_iff_eq, Bool.not_eq_true', Bool.not_eq_false', Bool.not_eq_true, Bool.not_eq_false, ne_eq, Int.not_lt, Int.not_le, Bool.and_eq_true, Bool.or_eq_true, Bool.or_eq_false_iff, Bool.and_eq_false_imp, strOf_toList, Decidable.not_not] at hover)
     ·skip
      refine AW.seq ?_
      refine AW.region ?_
      refine AO.op (O.move rfl rfl) rfl rfl rfl ?_
      refine AO.op (O.leq rfl rfl rfl (by exact bTrue (by omega))) rfl rfl rfl ?_
      refine AO.op (O.move rfl rfl) rfl rfl rfl ?_
      refine AO.callK hK notFoot_nil rfl rfl Tryz.func8 rfl rfl rfl rfl rfl (awakeT_fn) ?_
      refine AO.op (O.pickT rfl rfl rfl) rfl rfl rfl ?_
      refine AO.op (O.assign rfl rfl) rfl rfl rfl ?_
      refine AO.nil ?_
      refine AQ.thenN ?_
      refine AW.ret ?_
      refine AQ.thenR ?_
      refine AQ.blockR ?_
      refine AQ.thenR ?_
      refine AQ.blockR ?_
      refine AQ.loopR ?_
      refine AQ.blockR ?_
      refine AQ.thenR ?_
      refine AQ.ret1 rfl rfl ⟨_, List.nil_sublist _, .nil⟩ (⟨rfl, rfl⟩)
     ·skip
      refine AW.skip ?_
      refine AQ.thenN ?_
      refine AW.seq ?_
      refine AW.region ?_
      (refine AO.op (O.loadK rfl rfl (by repeat (exact List.Mem.head _)) (by (dsimp only [List.set, List.append, List.cons_append, List.nil_append, roB_cells, roI_cells, roO_cells, roW_cells, roU_cells, roH_cells, roPt_cells, splice, ofConst, AV.cells, List.map, List.map_cons, List.map_nil, List.take, List.drop, Nat.zero_add, Nat.add_zero, Nat.reduceAdd, Nat.reduceMul, Nat.zero_mul, Value.cells, List.toList_toArray, zerosA, List.replicate, List.flatten, List.append_nil]; done)) (by rfl)) rfl rfl rfl ?_)
      (refine AO.store (i := 4) rfl rfl rfl rfl rfl rfl (by rfl) (by rfl) (by rfl) (by (dsimp only [List.set, List.append, List.cons_append, List.nil_append, roB_cells, roI_cells, roO_cells, roW_cells, roU_cells, roH_cells, roPt_cells, splice, ofConst, AV.cells, List.map, List.map_cons, List.map_nil, List.take, List.drop, Nat.zero_add, Nat.add_zero, Nat.reduceAdd, Nat.reduceMul, Nat.zero_mul, Value.cells, List.toList_toArray, zerosA, List.replicate, List.flatten, List.append_nil]; done)) (by (dsimp only [List.set, List.append, List.cons_append, List.nil_append, roB_cells, roI_cells, roO_cells, roW_cells, roU_cells, roH_cells, roPt_cells, splice, ofConst, AV.cells, List.map, List.map_cons, List.map_nil, List.take, List.drop, Nat.zero_add, Nat.add_zero, Nat.reduceAdd, Nat.reduceMul, Nat.zero_mul, Value.cells, List.toList_toArray, zerosA, List.replicate, List.flatten, List.append_nil]; done)) ?_)
      refine AO.nil ?_
      refine AQ.thenN ?_
      refine AW.seq ?_
      refine AW.region ?_
      refine AO.op (O.move rfl rfl) rfl rfl rfl ?_
      refine AO.op (O.lenR rfl rfl) rfl rfl rfl ?_
      refine AO.op (O.move rfl rfl) rfl rfl rfl ?_
      refine AO.nil ?_
      refine AQ.thenN ?_
      refine AW.block ?_
      refine AW.loopK [(0, _), (2, _), (7, _), (8, _), (9, _), (11, _), (12, _), (13, _), (14, _), (15, _), (16, _), (17, _), (201, _), (202, _)] (fun nn E H => ∃ (j : Nat) (net3 : List Pk) (V3 : Value), (j ≤ r.2.1.length) ∧ (NetF F net3 c2 now2) ∧ (Kept b (upD k) net3 now2) ∧ (net3.length ≤ net2.length + j) ∧ (V3.oneCell' = true) ∧ nn = r.2.1.length - j ∧ E = [(10, .val V3), (203, .val (.int .i64 (j : Int)))] ∧ H = [.row V3 45 7 net3.length (pksA net3), .row V' 45 7 back.length (pksA back), .blk B3 56 4 [.val (.int .i64 b.next), roW b.out, roU b.used, roH b.inn], .blk B2 56 4 [.val (.int .i64 r.1.next), roW r.1.out, roU r.1.used, roH r.1.inn], deck B1 l (adv l (adv l kk))]) _ (⟨0, net2, Vn, by omega, hnetS, hkpS, by omega, hVn, rfl, rfl, rfl⟩) (by repeat (first | exact envNil | refine envCons rfl ?_)) (by repeat (first | exact envNil | refine envCons rfl ?_)) (by repeat (first | exact subPnil | refine subPcons 1 rfl ?_)) ?_
      rintro nn E H ⟨j, net3, V3, hj, hnet3, hkp3, hnl3, hV3, rfl, rfl, rfl⟩
      dsimp only [List.cons_append, List.nil_append]
      refine AW.seq ?_
      refine AW.region ?_
      refine AO.op (O.lss rfl rfl rfl (by rfl)) rfl rfl rfl ?_
      refine AO.nil ?_
      refine AQ.thenN ?_
      refine AW.seq ?_
      refine AW.split rfl (fun hlt => ?_) (fun hlt => ?_) <;> (try simp only [decide_eq_true_eq, decide_eq_false_iff_not, beq_iff_eq, beq_eq_false_iff_ne, bne_iff_ne, bne_eq_false_iff_eq, Bool.not_eq_true', Bool.not_eq_false', Bool.not_eq_true, Bool.not_eq_false, ne_eq, Int.not_lt, Int.not_le, Bool.and_eq_true, Bool.or_eq_true, Bool.or_eq_false_iff, Bool.and_eq_false_imp, strOf_toList, Decidable.not_not] at hlt)
      ·skip
       have hjw : j < r.2.1.length := by omega
       obtain ⟨hw2, hwm⟩ := hrw _ (getD_mem Wt.none hjw)
       obtain ⟨wt', hwe⟩ : ∃ w', w' = wt r.2.1 j := ⟨_, rfl⟩
       obtain ⟨fm, hfm⟩ : ∃ m, m = F num := ⟨_, rfl⟩
       have hwm' : wt'.m = fm := by rw [hwe, hfm]; exact hwm
       have hfi : fm.id = (num : Int) := by rw [hfm, hFi]
       have hgw : ((wtsA r.2.1).drop (Int.toNat (j : Int) * 9)).take 9 = [.val (.int .i64 wt'.peer), .val (.int .i64 fm.ty), .val (.int .i64 fm.code), .val (.int .i64 fm.id), roB fm.tok, roO fm.opts, roB fm.pay, .val (.int .i64 wt'.due), .val (.int .i64 wt'.sent)] := by
        rw [getW hjw (by omega), ← hwe, ← hwm']
       refine AW.skip ?_
       refine AQ.thenN ?_
       refine AW.seq ?_
       refine AW.block ?_
       refine AW.seq ?_
       refine AW.region ?_
       refine AO.op (O.idxR rfl rfl rfl ⟨(by omega), (by omega)⟩) rfl rfl rfl ?_
       refine AO.op (O.loadRK rfl rfl (by exact hgw) (by rfl)) rfl rfl rfl ?_
       refine AO.opB (O.alloc rfl (by (dsimp only [List.set, List.append, List.cons_append, List.nil_append, roB_cells, roI_cells, roO_cells, roW_cells, roU_cells, roH_cells, roPt_cells, splice, ofConst, AV.cells, List.map, List.map_cons, List.map_nil, List.take, List.drop, Nat.zero_add, Nat.add_zero, Nat.reduceAdd, Nat.reduceMul, Nat.zero_mul, Value.cells, List.toList_toArray, zerosA, List.replicate, List.flatten, List.append_nil]; done)) (by rfl)) rfl rfl rfl ?_
       intro B9
       (refine AO.store (i := 0) rfl rfl rfl rfl rfl rfl (by rfl) (by rfl) (by rfl) (by (dsimp only [List.set, List.append, List.cons_append, List.nil_append, roB_cells, roI_cells, roO_cells, roW_cells, roU_cells, roH_cells, roPt_cells, splice, ofConst, AV.cells, List.map, List.map_cons, List.map_nil, List.take, List.drop, Nat.zero_add, Nat.add_zero, Nat.reduceAdd, Nat.reduceMul, Nat.zero_mul, Value.cells, List.toList_toArray, zerosA, List.replicate, List.flatten, List.append_nil]; done)) (by (dsimp only [List.set, List.append, List.cons_append, List.nil_append, roB_cells, roI_cells, roO_cells, roW_cells, roU_cells, roH_cells, roPt_cells, splice, ofConst, AV.cells, List.map, List.map_cons, List.map_nil, List.take, List.drop, Nat.zero_add, Nat.add_zero, Nat.reduceAdd, Nat.reduceMul, Nat.zero_mul, Value.cells, List.toList_toArray, zerosA, List.replicate, List.flatten, List.append_nil]; done)) ?_)
       refine AO.nil ?_
       refine AQ.thenN ?_
       refine AW.seq ?_
       refine AW.region ?_
       refine AO.op (O.move rfl rfl) rfl rfl rfl ?_
       refine AO.op (O.lenRow rfl rfl (by repeat (first | exact List.Mem.head _ | refine List.Mem.tail _ ?_))) rfl rfl rfl ?_
       refine AO.op (O.move rfl rfl) rfl rfl rfl ?_
       refine AO.nil ?_
       refine AQ.thenN ?_
       refine AW.block ?_
       refine AW.loopK [(0, _), (2, _), (7, _), (8, _), (9, _), (11, _), (12, _), (13, _), (14, _), (15, _), (16, _), (17, _), (31, _), (201, _), (202, _), (203, _), (207, _), (208, _)] (fun nn E H => ∃ (q : Nat), (q ≤ net3.length) ∧ nn = net3.length - q ∧ E = [(10, .val V3), (209, .val (.int .i64 (q : Int)))] ∧ H = [.blk B9 78 9 [.val (.int .i64 wt'.peer), .val (.int .i64 fm.ty), .val (.int .i64 fm.code), .val (.int .i64 fm.id), roB fm.tok, roO fm.opts, roB fm.pay, .val (.int .i64 wt'.due), .val (.int .i64 wt'.sent)], .row V3 45 7 net3.length (pksA net3), .row V' 45 7 back.length (pksA back), .blk B3 56 4 [.val (.int .i64 b.next), roW b.out, roU b.used, roH b.inn], .blk B2 56 4 [.val (.int .i64 r.1.next), roW r.1.out, roU r.1.used, roH r.1.inn], deck B1 l (adv l (adv l kk))]) _ (⟨0, by omega, rfl, rfl, rfl⟩) (by repeat (first | exact envNil | refine envCons rfl ?_)) (by repeat (first | exact envNil | refine envCons rfl ?_)) (by repeat (first | exact subPnil | refine subPcons 0 rfl ?_)) ?_
       rintro nn E H ⟨q, hq, rfl, rfl, rfl⟩
       dsimp only [List.cons_append, List.nil_append]
       refine AW.seq ?_
       refine AW.region ?_
       refine AO.op (O.lss rfl rfl rfl (by rfl)) rfl rfl rfl ?_
       refine AO.nil ?_
       refine AQ.thenN ?_
       refine AW.seq ?_
       refine AW.split rfl (fun hlt2 => ?_) (fun hlt2 => ?_) <;> (try simp only [decide_eq_true_eq, decide_eq_false_iff_not, beq_iff_eq, beq_eq_false_iff_ne, bne_iff_ne, bne_eq_false_iff_eq, Bool.not_eq_true', Bool.not_eq_false', Bool.not_eq_true, Bool.not_eq_false, ne_eq, Int.not_lt, Int.not_le, Bool.and_eq_true, Bool.or_eq_true, Bool.or_eq_false_iff, Bool.and_eq_false_imp, strOf_toList, Decidable.not_not] at hlt2)
       ·skip
        have hql : q < net3.length := by omega
        obtain ⟨i, hi0, hin, hqm, hqa, hqn⟩ := hnet3 _ (getD_mem Pk.none hql)
        obtain ⟨qq, hqq⟩ : ∃ qq, qq = pk net3 q := ⟨_, rfl⟩
        have hqqm : net3.getD q Pk.none = qq := hqq.symm
        rw [hqqm] at hqm hqa hqn
        have hqi : qq.m.id = i := by rw [hqm, hFi]
        have hgp : ((pksA net3).drop (0 + Int.toNat (q : Int) * 7)).take 7 = cP qq := by
         rw [getP hql (by omega), hqq]
        refine AW.g ?_
        refine G.openRow 1 rfl (by omega) (fun b' cap hc1 hc2 hxs hVe => ?_)
        refine AW.u ?_
        subst hVe
        refine AW.g ?_
        dsimp only [List.set]
        refine AW.u ?_
        refine AW.skip ?_
        refine AQ.thenN ?_
        refine AW.seq ?_
        refine AW.block ?_
        refine AW.seq ?_
        refine AW.region ?_
        refine AO.op (O.idxV rfl rfl rfl ⟨(by omega), (by omega)⟩) rfl rfl rfl ?_
        refine AO.op (O.loadK rfl rfl (by repeat (first | exact List.Mem.head _ | refine List.Mem.tail _ ?_)) (by exact hgp) (by rfl)) rfl rfl rfl ?_
        refine AO.opB (O.alloc rfl (by (dsimp only [List.set, List.append, List.cons_append, List.nil_append, roB_cells, roI_cells, roO_cells, roW_cells, roU_cells, roH_cells, roPt_cells, splice, ofConst, AV.cells, List.map, List.map_cons, List.map_nil, List.take, List.drop, Nat.zero_add, Nat.add_zero, Nat.reduceAdd, Nat.reduceMul, Nat.zero_mul, Value.cells, List.toList_toArray, zerosA, List.replicate, List.flatten, List.append_nil]; done)) (by rfl)) rfl rfl rfl ?_
        intro B10
        (refine AO.store (i := 0) rfl rfl rfl rfl rfl rfl (by rfl) (by rfl) (by rfl) (by (dsimp only [List.set, List.append, List.cons_append, List.nil_append, roB_cells, roI_cells, roO_cells, roW_cells, roU_cells, roH_cells, roPt_cells, splice, ofConst, AV.cells, List.map, List.map_cons, List.map_nil, List.take, List.drop, Nat.zero_add, Nat.add_zero, Nat.reduceAdd, Nat.reduceMul, Nat.zero_mul, Value.cells, List.toList_toArray, zerosA, List.replicate, List.flatten, List.append_nil]; done)) (by (dsimp only [List.set, List.append, List.cons_append, List.nil_append, roB_cells, roI_cells, roO_cells, roW_cells, roU_cells, roH_cells, roPt_cells, splice, ofConst, AV.cells, List.map, List.map_cons, List.map_nil, List.take, List.drop, Nat.zero_add, Nat.add_zero, Nat.reduceAdd, Nat.reduceMul, Nat.zero_mul, Value.cells, List.toList_toArray, zerosA, List.replicate, List.flatten, List.append_nil]; done)) ?_)
        refine AO.nil ?_
        refine AQ.thenN ?_
        refine AW.seq ?_
        refine AW.region ?_
        refine AO.op (O.fieldAddr rfl rfl) rfl rfl rfl ?_
        refine AO.op (O.fieldAddr rfl rfl) rfl rfl rfl ?_
        refine AO.op (O.load rfl rfl (by repeat (exact List.Mem.head _)) (by rfl)) rfl rfl rfl ?_
        refine AO.op (O.fieldAddr rfl rfl) rfl rfl rfl ?_
        refine AO.op (O.fieldAddr rfl rfl) rfl rfl rfl ?_
        refine AO.op (O.load rfl rfl (by repeat (first | exact List.Mem.head _ | refine List.Mem.tail _ ?_)) (by rfl)) rfl rfl rfl ?_
        refine AO.op (O.eql rfl rfl rfl (by rfl)) rfl rfl rfl ?_
        refine AO.nil ?_
        refine AQ.thenN ?_
        refine AW.g ?_
        refine G.closeRow (b := b') 2 rfl hxs rfl hc1 hc2 ?_
        refine AW.u ?_
        refine AW.g ?_
        dsimp only [List.set]
        refine AW.u ?_
        refine AW.split rfl (fun h211 => ?_) (fun h211 => ?_) <;> (try simp only [decide_eq_true_eq, decide_eq_false_iff_not, beq_iff_eq, beq_eq_false_iff_ne, bne_iff_ne, bne_eq_false_iff_eq, Bool.not_eq_true', Bool.not_eq_false', Bool.not_eq_true, Bool.not_eq_false, ne_eq, Int.not_lt, Int.not_le, Bool.and_eq_true, Bool.or_eq_true, Bool.or_eq_false_iff, Bool.and_eq_false_imp, strOf_toList, Decidable.not_not] at h211)
        ·skip
         have hii : i = (num : Int) := by omega
         have hqf : qq.m = fm := by rw [hqm, hii, hfm]
         have hkp4 : Kept b (upD k) (net3 ++ [(⟨fm, qq.at_⟩ : Pk)]) now2 := hkp3.snoc (fun hd hl => by
          have h := hkp3 _ (getD_mem Pk.none hql)
          rw [hqqm] at h
          have h2 := h (by rw [hqf]; exact hd) hl
          rw [hqf] at h2
          exact h2)
         have hnet4 : NetF F (net3 ++ [(⟨fm, qq.at_⟩ : Pk)]) c2 now2 := hnet3.snoc (i := (num : Int)) ⟨by omega, by omega⟩ hfm ⟨hqa, hqn⟩
         have hgb := pksB_snoc net3 fm qq.at_
         have hgbl : (net3 ++ [(⟨fm, qq.at_⟩ : Pk)]).length = net3.length + 1 := by rw [List.length_append]; rfl
         refine AW.seq ?_
         refine AW.region ?_
         refine AO.op (O.move rfl rfl) rfl rfl rfl ?_
         refine AO.op (O.fieldAddr rfl rfl) rfl rfl rfl ?_
         (refine AO.op (O.loadK rfl rfl (by repeat (first | exact List.Mem.head _ | refine List.Mem.tail _ ?_)) (by (dsimp only [List.set, List.append, List.cons_append, List.nil_append, roB_cells, roI_cells, roO_cells, roW_cells, roU_cells, roH_cells, roPt_cells, splice, ofConst, AV.cells, List.map, List.map_cons, List.map_nil, List.take, List.drop, Nat.zero_add, Nat.add_zero, Nat.reduceAdd, Nat.reduceMul, Nat.zero_mul, Value.cells, List.toList_toArray, zerosA, List.replicate, List.flatten, List.append_nil]; done)) (by rfl)) rfl rfl rfl ?_)
         refine AO.op (O.fieldAddr rfl rfl) rfl rfl rfl ?_
         refine AO.op (O.load rfl rfl (by repeat (exact List.Mem.head _)) (by rfl)) rfl rfl rfl ?_
         refine AO.op (O.build rfl rfl rfl (by rfl)) rfl rfl rfl ?_
         refine AO.opB (O.buildSlice rfl rfl rfl (by rfl) (by rfl) (by rfl) (by rfl)) rfl rfl rfl ?_
         intro B11
         refine AO.g ?_
         (refine G.freezeSl 0 226 rfl rfl ⟨Nat.le_refl _, by unfold maxLen; omega⟩ ?_)
         refine G.unfull 226 rfl ?_
         refine AO.u ?_
         dsimp only [List.eraseIdx]
         (refine AO.append' (i := 2) rfl rfl rfl rfl (by rfl) (by rfl) rfl rfl rfl (by exact SrcA.ro TyD.ax (by rfl) (Nat.le_of_ble_eq_true rfl)) (by rfl) (by (unfold maxLen; omega)) (by omega) (by (dsimp only [List.set, List.append, List.cons_append, List.nil_append, roB_cells, roI_cells, roO_cells, roW_cells, roU_cells, roH_cells, roPt_cells, splice, ofConst, AV.cells, List.map, List.map_cons, List.map_nil, List.take, List.drop, Nat.zero_add, Nat.add_zero, Nat.reduceAdd, Nat.reduceMul, Nat.zero_mul, Value.cells, List.toList_toArray, zerosA, List.replicate, List.flatten, List.append_nil]; done)) (fun _ => by (dsimp only [List.set]; done)) ?_)
         intro V12 hV12
         refine AO.op (O.assign rfl rfl) rfl rfl rfl ?_
         refine AO.nil ?_
         refine AQ.thenN ?_
         refine AW.exit ?_
         refine AQ.blockY rfl ?_
         refine AQ.thenX ?_
         refine AQ.loopX ?_
         refine AQ.blockX rfl ?_
         refine AQ.blockN ?_
         refine AQ.thenN ?_
         refine AW.region ?_
         refine AO.op (O.add rfl rfl rfl (by exact wI64 (by omega))) rfl rfl rfl ?_
         refine AO.op (O.move rfl rfl) rfl rfl rfl ?_
         refine AO.nil ?_
         rw [show pksA net3 ++ _ = _ from hgb, ← hgbl]
         refine AQ.loopKN _ _ _ (by omega) (⟨j + 1, net3 ++ [(⟨fm, qq.at_⟩ : Pk)], _, by omega, hnet4, hkp4, (by omega), ‹_›, rfl, rfl, rfl⟩) (by repeat (first | exact envNil | refine envCons rfl ?_)) (by repeat (first | exact envNil | refine envCons rfl ?_)) (by repeat (first | exact subPnil | refine subPcons 2 rfl ?_))
        ·skip
         refine AW.skip ?_
         refine AQ.blockN ?_
         refine AQ.thenN ?_
         refine AW.region ?_
         refine AO.op (O.add rfl rfl rfl (by exact wI64 (by omega))) rfl rfl rfl ?_
         refine AO.op (O.move rfl rfl) rfl rfl rfl ?_
         refine AO.nil ?_
         refine AQ.loopKN _ _ _ (by omega) (⟨q + 1, by omega, rfl, rfl, rfl⟩) (by repeat (first | exact envNil | refine envCons rfl ?_)) (by repeat (first | exact envNil | refine envCons rfl ?_)) (by repeat (first | exact subPnil | refine subPcons 1 rfl ?_))
       ·skip
        refine AW.exit ?_
        refine AQ.thenX ?_
        refine AQ.loopX ?_
        refine AQ.blockX rfl ?_
        refine AQ.blockN ?_
        refine AQ.thenN ?_
        refine AW.region ?_
        refine AO.op (O.add rfl rfl rfl (by exact wI64 (by omega))) rfl rfl rfl ?_
        refine AO.op (O.move rfl rfl) rfl rfl rfl ?_
        refine AO.nil ?_
        refine AQ.loopKN _ _ _ (by omega) (⟨j + 1, net3, V3, by omega, hnet3, hkp3, by omega, hV3, rfl, rfl, rfl⟩) (by repeat (first | exact envNil | refine envCons rfl ?_)) (by repeat (first | exact envNil | refine envCons rfl ?_)) (by repeat (first | exact subPnil | refine subPcons 1 rfl ?_))
      ·skip
       refine AW.exit ?_
       refine AQ.thenX ?_
       refine AQ.loopX ?_
       refine AQ.blockX rfl ?_
       refine AQ.blockN ?_
       refine AQ.thenN ?_
       refine AW.seq ?_
       refine AW.region ?_
       refine AO.op (O.move rfl rfl) rfl rfl rfl ?_
       refine AO.op (O.gtr rfl rfl rfl (by exact bFalse (by omega))) rfl rfl rfl ?_
       refine AO.nil ?_
       refine AQ.thenN ?_
       refine AW.condF rfl ?_
       refine AW.skip ?_
       refine AQ.blockN ?_
       refine AQ.loopKN _ _ _ (by omega) (⟨_, now2, last, num, k, done, c2, w2, r.1, b, net3, back, ps, V3, V', ha2', hrA, hcc2, hvb, hB, hkp3, hnet3, hbk, hS, hnk2, hhas2, by omega, by omega, by omega, ⟨hla.1, by omega⟩, by omega, hV3, hV', rfl, rfl, rfl⟩) (by repeat (first | exact envNil | refine envCons rfl ?_)) (by repeat (first | exact envNil | refine envCons rfl ?_)) (by repeat (first | exact subPnil | refine subPcons 0 rfl ?_))
   ·skip
    refine AW.seq ?_
    refine AW.seq ?_
    refine AW.region ?_
    refine AO.op (O.eql rfl rfl rfl (by rfl)) rfl rfl rfl ?_
    refine AO.op (O.assign rfl rfl) rfl rfl rfl ?_
    refine AO.nil ?_
    refine AQ.thenN ?_
    refine AW.joinK (True) [(0, _), (2, _), (7, _), (8, _), (9, _), (10, _), (11, _), (12, _), (13, _), (14, _), (15, _), (16, _), (17, _)] [(230, .val (.bool (decide (z4 < 3))))] [.row Vn 45 7 net2.length (pksA net2), .row V' 45 7 back.length (pksA back), .blk B3 56 4 [.val (.int .i64 b.next), roW b.out, roU b.used, roH b.inn], .blk B2 56 4 [.val (.int .i64 a2.next), roW a2.out, roU a2.used, roH a2.inn], deck B1 l (adv l (adv l kk))] rfl (by repeat (first | exact envNil | refine envCons rfl ?_)) (fun hz => ?_) (fun hz => ?_) (fun hj => ?_) <;> try (try simp only [decide_eq_true_eq, decide_eq_false_iff_not, beq_iff_eq, beq_eq_false_iff_ne, bne_iff_ne, bne_eq_false_iff_eq, Bool.not_eq_true', Bool.not_eq_false', Bool.not_eq_true, Bool.not_eq_false, ne_eq, Int.not_lt, Int.not_le, Bool.and_eq_true, Bool.or_eq_true, Bool.or_eq_false_iff, Bool.and_eq_false_imp, strOf_toList, Decidable.not_not] at hz)
    ·skip
     have e1 : (z4 == 1) = true := by rw [hz]; rfl
     have e2 : decide (z4 < 3) = true := decide_eq_true (by omega)
     rw [e1, e2]
     refine AW.skip ?_
     refine AQ.midK (trivial) (by repeat (first | exact envNil | refine envCons rfl ?_)) (by repeat (first | exact envNil | refine envCons rfl ?_)) (by repeat (first | exact subPnil | refine subPcons 0 rfl ?_))
    ·skip
     refine AW.region ?_
     refine AO.op (O.eql rfl rfl rfl (by rfl)) rfl rfl rfl ?_
     refine AO.op (O.assign rfl rfl) rfl rfl rfl ?_
     refine AO.nil ?_
     have e2 : (z4 == 2) = decide (z4 < 3) := by rw [Bool.eq_iff_iff, beq_iff_eq, decide_eq_true_eq]; omega
     rw [e2]
     refine AQ.midK (trivial) (by repeat (first | exact envNil | refine envCons rfl ?_)) (by repeat (first | exact envNil | refine envCons rfl ?_)) (by repeat (first | exact subPnil | refine subPcons 0 rfl ?_))
    dsimp only [List.cons_append, List.nil_append]
    refine AQ.thenN ?_
    refine AW.split rfl (fun h12 => ?_) (fun h12 => ?_) <;> (try simp only [decide_eq_true_eq, decide_eq_false_iff_not, beq_iff_eq, beq_eq_false_iff_ne, bne_iff_ne, bne_eq_false_iff_eq, Bool.not_eq_true', Bool.not_eq_false', Bool.not_eq_true, Bool.not_eq_false, ne_eq, Int.not_lt, Int.not_le, Bool.and_eq_true, Bool.or_eq_true, Bool.or_eq_false_iff, Bool.and_eq_false_imp, strOf_toList, Decidable.not_not] at h12)
    ·skip
     refine AW.seq ?_
     refine AW.seq ?_
     refine AW.region ?_
     refine AO.op (O.move rfl rfl) rfl rfl rfl ?_
     refine AO.op (O.lenRow rfl rfl (by repeat (exact List.Mem.head _))) rfl rfl rfl ?_
     refine AO.op (O.eql rfl rfl rfl (by rfl)) rfl rfl rfl ?_
     refine AO.nil ?_
     refine AQ.thenN ?_
     refine AW.split rfl (fun hem => ?_) (fun hem => ?_) <;> (try simp only [decide_eq_true_eq, decide_eq_false_iff_not, beq_iff_eq, beq_eq_false_iff_ne, bne_iff_ne, bne_eq_false_iff_eq, Bool.not_eq_true', Bool.not_eq_false', Bool.not_eq_true, Bool.not_eq_false, ne_eq, Int.not_lt, Int.not_le, Bool.and_eq_true, Bool.or_eq_true, Bool.or_eq_false_iff, Bool.and_eq_false_imp, strOf_toList, Decidable.not_not] at hem)
     ·skip
      refine AW.exit ?_
      refine AQ.thenX ?_
      refine AQ.blockY rfl ?_
      refine AQ.thenX ?_
      refine AQ.blockX rfl ?_
      refine AQ.loopKN _ _ _ (by omega) (⟨_, now2, last, num, k, done, c2, w2, a2, b, net2, back, ps, Vn, V', ha2', hA2, hcc2, hvb, hB, hkpS, hnetS, hbk, hS, hnk2, hhas2, by omega, by omega, by omega, ⟨hla.1, by omega⟩, by omega, hVn, hV', rfl, rfl, rfl⟩) (by repeat (first | exact envNil | refine envCons rfl ?_)) (by repeat (first | exact envNil | refine envCons rfl ?_)) (by repeat (first | exact subPnil | refine subPcons 0 rfl ?_))
     ·skip
      have hnl0 : 0 < net2.length := by omega
      have hz3 := nxt_in l (adv l (adv l kk)) (n := (net2.length : Int)) (by omega)
      have ha3 := adv_ge l (adv l (adv l kk))
      have ha3' : adv l (adv l (adv l kk)) ≤ l.length := adv_le' ha2'
      obtain ⟨j, hj⟩ : ∃ j : Nat, nxt l (adv l (adv l kk)) (net2.length : Int) = (j : Int) := ⟨(nxt l (adv l (adv l kk)) (net2.length : Int)).toNat, by omega⟩
      rw [hj] at hz3
      have hjl : j < net2.length := by omega
      obtain ⟨qq, hqq⟩ : ∃ qq, qq = pk net2 j := ⟨_, rfl⟩
      have hqin : qq ∈ net2 := by rw [hqq]; exact getD_mem Pk.none hjl
      obtain ⟨i, hi0, hin, hqm, hqa, hqn⟩ := hnetS _ hqin
      have hgp : ((pksA net2).drop (0 + (nxt l (adv l (adv l kk)) (net2.length : Int)).toNat * 7)).take 7 = cP qq := by
       rw [getP hjl (by omega), hqq]
      refine AW.g ?_
      refine G.openRow 0 rfl (by omega) (fun b' cap hc1 hc2 hxs hVe => ?_)
      refine AW.u ?_
      subst hVe
      refine AW.g ?_
      dsimp only [List.set]
      refine AW.u ?_
      refine AW.skip ?_
      refine AQ.thenN ?_
      refine AW.seq ?_
      refine AW.region ?_
      refine AO.op (O.move rfl rfl) rfl rfl rfl ?_
      refine AO.op (O.move rfl rfl) rfl rfl rfl ?_
      refine AO.op (O.move rfl rfl) rfl rfl rfl ?_
      refine AO.op (O.lenV rfl rfl) rfl rfl rfl ?_
      (refine AO.callM1 (i := 4) rfl rfl Tryz.func13 rfl rfl rfl rfl rfl rfl (next_fn _ _ _ _ hl (by repeat (assumption)) (by omega) (by omega)) (by (dsimp only [List.set, List.append, List.cons_append, List.nil_append, roB_cells, roI_cells, roO_cells, roW_cells, roU_cells, roH_cells, roPt_cells, splice, ofConst, AV.cells, List.map, List.map_cons, List.map_nil, List.take, List.drop, Nat.zero_add, Nat.add_zero, Nat.reduceAdd, Nat.reduceMul, Nat.zero_mul, Value.cells, List.toList_toArray, zerosA, List.replicate, List.flatten, List.append_nil]; done)) ?_)
      refine AO.op (O.idxV rfl rfl rfl ⟨(by omega), (by omega)⟩) rfl rfl rfl ?_
      refine AO.op (O.loadK rfl rfl (by repeat (exact List.Mem.head _)) (by exact hgp) (by rfl)) rfl rfl rfl ?_
      refine AO.opB (O.alloc rfl (by (dsimp only [List.set, List.append, List.cons_append, List.nil_append, roB_cells, roI_cells, roO_cells, roW_cells, roU_cells, roH_cells, roPt_cells, splice, ofConst, AV.cells, List.map, List.map_cons, List.map_nil, List.take, List.drop, Nat.zero_add, Nat.add_zero, Nat.reduceAdd, Nat.reduceMul, Nat.zero_mul, Value.cells, List.toList_toArray, zerosA, List.replicate, List.flatten, List.append_nil]; done)) (by rfl)) rfl rfl rfl ?_
      intro B13
      (refine AO.store (i := 0) rfl rfl rfl rfl rfl rfl (by rfl) (by rfl) (by rfl) (by (dsimp only [List.set, List.append, List.cons_append, List.nil_append, roB_cells, roI_cells, roO_cells, roW_cells, roU_cells, roH_cells, roPt_cells, splice, ofConst, AV.cells, List.map, List.map_cons, List.map_nil, List.take, List.drop, Nat.zero_add, Nat.add_zero, Nat.reduceAdd, Nat.reduceMul, Nat.zero_mul, Value.cells, List.toList_toArray, zerosA, List.replicate, List.flatten, List.append_nil]; done)) (by (dsimp only [List.set, List.append, List.cons_append, List.nil_append, roB_cells, roI_cells, roO_cells, roW_cells, roU_cells, roH_cells, roPt_cells, splice, ofConst, AV.cells, List.map, List.map_cons, List.map_nil, List.take, List.drop, Nat.zero_add, Nat.add_zero, Nat.reduceAdd, Nat.reduceMul, Nat.zero_mul, Value.cells, List.toList_toArray, zerosA, List.replicate, List.flatten, List.append_nil]; done)) ?_)
      refine AO.nil ?_
      refine AQ.thenN ?_
      refine AW.seq ?_
      refine AW.seq ?_
      refine AW.region ?_
      refine AO.op (O.move rfl rfl) rfl rfl rfl ?_
      refine AO.op (O.fieldAddr rfl rfl) rfl rfl rfl ?_
      refine AO.op (O.load rfl rfl (by repeat (exact List.Mem.head _)) (by rfl)) rfl rfl rfl ?_
      refine AO.op (O.sub rfl rfl rfl (by exact wI64 (by omega))) rfl rfl rfl ?_
      refine AO.op (O.geq rfl rfl rfl (by rfl)) rfl rfl rfl ?_
      refine AO.nil ?_
      refine AQ.thenN ?_
      refine AW.g ?_
      refine G.closeRow (b := b') 1 rfl hxs rfl hc1 hc2 ?_
      refine AW.u ?_
      refine AW.g ?_
      dsimp only [List.set]
      refine AW.u ?_
      refine AW.split rfl (fun hold => ?_) (fun hold => ?_) <;> (try simp only [decide_eq_true_eq, decide_eq_false_iff_not, beq_iff_eq, beq_eq_false_iff_ne, bne_iff_ne, bne_eq_false_iff_eq, Bool.not_eq_true', Bool.not_eq_false', Bool.not_eq_true, Bool.not_eq_false, ne_eq, Int.not_lt, Int.not_le, Bool.and_eq_true, Bool.or_eq_true, Bool.or_eq_false_iff, Bool.and_eq_false_imp, strOf_toList, Decidable.not_not] at hold)
      ·skip
       refine AW.exit ?_
       refine AQ.thenX ?_
       refine AQ.blockY rfl ?_
       refine AQ.thenX ?_
       refine AQ.blockX rfl ?_
       refine AQ.loopKN _ _ _ (by omega) (⟨_, now2, last, num, k, done, c2, w2, a2, b, net2, back, ps, _, V', ha3', hA2, hcc2, hvb, hB, hkpS, hnetS, hbk, hS, hnk2, hhas2, by omega, by omega, by omega, ⟨hla.1, by omega⟩, by omega, ‹_›, hV', rfl, rfl, rfl⟩) (by repeat (first | exact envNil | refine envCons rfl ?_)) (by repeat (first | exact envNil | refine envCons rfl ?_)) (by repeat (first | exact subPnil | refine subPcons 1 rfl ?_))
      ·skip
       have hqv : ValM qq.m := by rw [hqm]; exact hFv i ⟨by omega, by omega⟩
       have hqi0 : qq.m.id = i := by rw [hqm, hFi]
       have hrec := gen_recv (m := qq.m) hvb hB hkpS (fun q hq => by obtain ⟨_, _, _, _, _, h⟩ := hnetS q hq; exact h) hqin rfl hqv (by rw [hqm, hF]) (by rw [hqm, hF]; show (3 : Int) ≠ 0; omega) hto (by omega)
       refine AW.skip ?_
       refine AQ.thenN ?_
       refine AW.seq ?_
       refine AW.region ?_
       (refine AO.op (O.loadK rfl rfl (by repeat (first | exact List.Mem.head _ | refine List.Mem.tail _ ?_)) (by (dsimp only [List.set, List.append, List.cons_append, List.nil_append, roB_cells, roI_cells, roO_cells, roW_cells, roU_cells, roH_cells, roPt_cells, splice, ofConst, AV.cells, List.map, List.map_cons, List.map_nil, List.take, List.drop, Nat.zero_add, Nat.add_zero, Nat.reduceAdd, Nat.reduceMul, Nat.zero_mul, Value.cells, List.toList_toArray, zerosA, List.replicate, List.flatten, List.append_nil]; done)) (by rfl)) rfl rfl rfl ?_)
       refine AO.op (O.fieldAddr rfl rfl) rfl rfl rfl ?_
       (refine AO.op (O.loadK rfl rfl (by repeat (exact List.Mem.head _)) (by (dsimp only [List.set, List.append, List.cons_append, List.nil_append, roB_cells, roI_cells, roO_cells, roW_cells, roU_cells, roH_cells, roPt_cells, splice, ofConst, AV.cells, List.map, List.map_cons, List.map_nil, List.take, List.drop, Nat.zero_add, Nat.add_zero, Nat.reduceAdd, Nat.reduceMul, Nat.zero_mul, Value.cells, List.toList_toArray, zerosA, List.replicate, List.flatten, List.append_nil]; done)) (by rfl)) rfl rfl rfl ?_)
       refine AO.op (O.move rfl rfl) rfl rfl rfl ?_
       refine AO.op (O.call rfl Tryz.func21 rfl rfl rfl (recv_fn b _ qq.m _ hbdB)) rfl rfl rfl ?_
       refine AO.op (O.move rfl rfl) rfl rfl rfl ?_
       refine AO.op (O.extract rfl rfl rfl) rfl rfl rfl ?_
       refine AO.op (O.extract rfl rfl rfl) rfl rfl rfl ?_
       refine AO.op (O.extract rfl rfl rfl) rfl rfl rfl ?_
       refine AO.op (O.extract rfl rfl rfl) rfl rfl rfl ?_
       refine AO.opB (O.alloc rfl (by (dsimp only [List.set, List.append, List.cons_append, List.nil_append, roB_cells, roI_cells, roO_cells, roW_cells, roU_cells, roH_cells, roPt_cells, splice, ofConst, AV.cells, List.map, List.map_cons, List.map_nil, List.take, List.drop, Nat.zero_add, Nat.add_zero, Nat.reduceAdd, Nat.reduceMul, Nat.zero_mul, Value.cells, List.toList_toArray, zerosA, List.replicate, List.flatten, List.append_nil]; done)) (by rfl)) rfl rfl rfl ?_
       intro B14
       refine AO.opB (O.alloc rfl (by (dsimp only [List.set, List.append, List.cons_append, List.nil_append, roB_cells, roI_cells, roO_cells, roW_cells, roU_cells, roH_cells, roPt_cells, splice, ofConst, AV.cells, List.map, List.map_cons, List.map_nil, List.take, List.drop, Nat.zero_add, Nat.add_zero, Nat.reduceAdd, Nat.reduceMul, Nat.zero_mul, Value.cells, List.toList_toArray, zerosA, List.replicate, List.flatten, List.append_nil]; done)) (by rfl)) rfl rfl rfl ?_
       intro B15
       (refine AO.store (i := 1) rfl rfl rfl rfl rfl rfl (by rfl) (by rfl) (by rfl) (by (dsimp only [List.set, List.append, List.cons_append, List.nil_append, roB_cells, roI_cells, roO_cells, roW_cells, roU_cells, roH_cells, roPt_cells, splice, ofConst, AV.cells, List.map, List.map_cons, List.map_nil, List.take, List.drop, Nat.zero_add, Nat.add_zero, Nat.reduceAdd, Nat.reduceMul, Nat.zero_mul, Value.cells, List.toList_toArray, zerosA, List.replicate, List.flatten, List.append_nil]; done)) (by (dsimp only [List.set, List.append, List.cons_append, List.nil_append, roB_cells, roI_cells, roO_cells, roW_cells, roU_cells, roH_cells, roPt_cells, splice, ofConst, AV.cells, List.map, List.map_cons, List.map_nil, List.take, List.drop, Nat.zero_add, Nat.add_zero, Nat.reduceAdd, Nat.reduceMul, Nat.zero_mul, Value.cells, List.toList_toArray, zerosA, List.replicate, List.flatten, List.append_nil]; done)) ?_)
       refine AO.op (O.assign rfl rfl) rfl rfl rfl ?_
       (refine AO.store (i := 0) rfl rfl rfl rfl rfl rfl (by rfl) (by rfl) (by rfl) (by (dsimp only [List.set, List.append, List.cons_append, List.nil_append, roB_cells, roI_cells, roO_cells, roW_cells, roU_cells, roH_cells, roPt_cells, splice, ofConst, AV.cells, List.map, List.map_cons, List.map_nil, List.take, List.drop, Nat.zero_add, Nat.add_zero, Nat.reduceAdd, Nat.reduceMul, Nat.zero_mul, Value.cells, List.toList_toArray, zerosA, List.replicate, List.flatten, List.append_nil]; done)) (by (dsimp only [List.set, List.append, List.cons_append, List.nil_append, roB_cells, roI_cells, roO_cells, roW_cells, roU_cells, roH_cells, roPt_cells, splice, ofConst, AV.cells, List.map, List.map_cons, List.map_nil, List.take, List.drop, Nat.zero_add, Nat.add_zero, Nat.reduceAdd, Nat.reduceMul, Nat.zero_mul, Value.cells, List.toList_toArray, zerosA, List.replicate, List.flatten, List.append_nil]; done)) ?_)
       refine AO.op (O.assign rfl rfl) rfl rfl rfl ?_
       refine AO.nil ?_
       refine AQ.thenN ?_
       refine AW.seq ?_
       refine AW.seq ?_
       refine AW.region ?_
       refine AO.op (O.move rfl rfl) rfl rfl rfl ?_
       refine AO.op (O.neq rfl rfl rfl (by exact bne_eq_false_iff_eq.2 (by omega))) rfl rfl rfl ?_
       refine AO.nil ?_
       refine AQ.thenN ?_
       generalize recvR b 0 qq.m now2 = r at *
       obtain ⟨r1, r2, r3, r4⟩ := r
       dsimp only at hrec
       obtain ⟨rfl, hvr, hrec⟩ := hrec
       have hbdR := (ValE.sm hvr).bd
       dsimp only
       refine AW.split rfl (fun h259 => ?_) (fun h259 => ?_) <;> (try simp only [decide_eq_true_eq, decide_eq_false_iff_not, beq_iff_eq, beq_eq_false_iff_ne, bne_iff_ne, bne_eq_false_iff_eq, Bool.not_eq_true', Bool.not_eq_false', Bool.not_eq_true, Bool.not_eq_false, ne_eq, Int.not_lt, Int.not_le, Bool.and_eq_true, Bool.or_eq_true, Bool.or_eq_false_iff, Bool.and_eq_false_imp, strOf_toList, Decidable.not_not] at h259)
       ·skip
        exact absurd h259 (by simp)
       ·skip
        refine AW.skip ?_
        refine AQ.thenN ?_
        refine AW.seq ?_
        refine AW.region ?_
        (refine AO.op (O.loadK rfl rfl (by repeat (first | exact List.Mem.head _ | refine List.Mem.tail _ ?_)) (by (dsimp only [List.set, List.append, List.cons_append, List.nil_append, roB_cells, roI_cells, roO_cells, roW_cells, roU_cells, roH_cells, roPt_cells, splice, ofConst, AV.cells, List.map, List.map_cons, List.map_nil, List.take, List.drop, Nat.zero_add, Nat.add_zero, Nat.reduceAdd, Nat.reduceMul, Nat.zero_mul, Value.cells, List.toList_toArray, zerosA, List.replicate, List.flatten, List.append_nil]; done)) (by rfl)) rfl rfl rfl ?_)
        (refine AO.store (i := 5) rfl rfl rfl rfl rfl rfl (by rfl) (by rfl) (by rfl) (by (dsimp only [List.set, List.append, List.cons_append, List.nil_append, roB_cells, roI_cells, roO_cells, roW_cells, roU_cells, roH_cells, roPt_cells, splice, ofConst, AV.cells, List.map, List.map_cons, List.map_nil, List.take, List.drop, Nat.zero_add, Nat.add_zero, Nat.reduceAdd, Nat.reduceMul, Nat.zero_mul, Value.cells, List.toList_toArray, zerosA, List.replicate, List.flatten, List.append_nil]; done)) (by (dsimp only [List.set, List.append, List.cons_append, List.nil_append, roB_cells, roI_cells, roO_cells, roW_cells, roU_cells, roH_cells, roPt_cells, splice, ofConst, AV.cells, List.map, List.map_cons, List.map_nil, List.take, List.drop, Nat.zero_add, Nat.add_zero, Nat.reduceAdd, Nat.reduceMul, Nat.zero_mul, Value.cells, List.toList_toArray, zerosA, List.replicate, List.flatten, List.append_nil]; done)) ?_)
        refine AO.nil ?_
        refine AQ.thenN ?_
        refine AW.seq ?_
        refine AW.seq ?_
        refine AW.region ?_
        refine AO.op (O.move rfl rfl) rfl rfl rfl ?_
        refine AO.op (O.eql rfl rfl rfl (by rfl)) rfl rfl rfl ?_
        refine AO.nil ?_
        refine AQ.thenN ?_
        rcases hrec with ⟨rfl, hB', hk', hid, rfl⟩ | ⟨rfl, hB', hk', rfl⟩ | ⟨rfl, hnd, hans⟩
        ·skip
         refine AW.split rfl (fun h262 => ?_) (fun h262 => ?_) <;> (try simp only [decide_eq_true_eq, decide_eq_false_iff_not, beq_iff_eq, beq_eq_false_iff_ne, bne_iff_ne, bne_eq_false_iff_eq, Bool.not_eq_true', Bool.not_eq_false', Bool.not_eq_true, Bool.not_eq_false, ne_eq, Int.not_lt, Int.not_le, Bool.and_eq_true, Bool.or_eq_true, Bool.or_eq_false_iff, Bool.and_eq_false_imp, strOf_toList, Decidable.not_not] at h262)
         ·skip
          exact absurd h262 (by simp)
         ·skip
          have hid2 := upD_mem.1 hid
          have hbk2 : BackU R (back ++ [(⟨R qq.m.id, now2⟩ : Pk)]) (k : Int) := hbk.snoc (.inr ⟨qq.m.id, hid2.1, hid2.2, rfl⟩)
          have hgb := pksB_snoc back (R qq.m.id) now2
          have hgbl : (back ++ [(⟨R qq.m.id, now2⟩ : Pk)]).length = back.length + 1 := by rw [List.length_append]; rfl
          refine AW.skip ?_
          refine AQ.thenN ?_
          refine AW.region ?_
          refine AO.op (O.move rfl rfl) rfl rfl rfl ?_
          (refine AO.op (O.loadK rfl rfl (by repeat (exact List.Mem.head _)) (by (dsimp only [List.set, List.append, List.cons_append, List.nil_append, roB_cells, roI_cells, roO_cells, roW_cells, roU_cells, roH_cells, roPt_cells, splice, ofConst, AV.cells, List.map, List.map_cons, List.map_nil, List.take, List.drop, Nat.zero_add, Nat.add_zero, Nat.reduceAdd, Nat.reduceMul, Nat.zero_mul, Value.cells, List.toList_toArray, zerosA, List.replicate, List.flatten, List.append_nil]; done)) (by rfl)) rfl rfl rfl ?_)
          refine AO.op (O.move rfl rfl) rfl rfl rfl ?_
          refine AO.op (O.build rfl rfl rfl (by rfl)) rfl rfl rfl ?_
          refine AO.opB (O.buildSlice rfl rfl rfl (by rfl) (by rfl) (by rfl) (by rfl)) rfl rfl rfl ?_
          intro B16
          refine AO.g ?_
          (refine G.freezeSl 0 339 rfl rfl ⟨Nat.le_refl _, by unfold maxLen; omega⟩ ?_)
          refine G.unfull 339 rfl ?_
          refine AO.u ?_
          dsimp only [List.eraseIdx]
          (refine AO.append' (i := 4) rfl rfl rfl rfl (by rfl) (by rfl) rfl rfl rfl (by exact SrcA.ro TyD.ax (by rfl) (Nat.le_of_ble_eq_true rfl)) (by rfl) (by (unfold maxLen; omega)) (by omega) (by (dsimp only [List.set, List.append, List.cons_append, List.nil_append, roB_cells, roI_cells, roO_cells, roW_cells, roU_cells, roH_cells, roPt_cells, splice, ofConst, AV.cells, List.map, List.map_cons, List.map_nil, List.take, List.drop, Nat.zero_add, Nat.add_zero, Nat.reduceAdd, Nat.reduceMul, Nat.zero_mul, Value.cells, List.toList_toArray, zerosA, List.replicate, List.flatten, List.append_nil]; done)) (fun _ => by (dsimp only [List.set]; done)) ?_)
          intro V17 hV17
          refine AO.op (O.assign rfl rfl) rfl rfl rfl ?_
          refine AO.nil ?_
          refine AQ.blockN ?_
          refine AQ.thenN ?_
          refine AW.seq ?_
          refine AW.region ?_
          refine AO.op (O.move rfl rfl) rfl rfl rfl ?_
          refine AO.op (O.gtr rfl rfl rfl (by exact bFalse (by omega))) rfl rfl rfl ?_
          refine AO.nil ?_
          refine AQ.thenN ?_
          refine AW.condF rfl ?_
          refine AW.skip ?_
          refine AQ.blockN ?_
          rw [show pksA back ++ _ = _ from hgb, ← hgbl]
          refine AQ.loopKN _ _ _ (by omega) (⟨_, now2, last, num, k, done, c2, w2, a2, r1, net2, _, ps, _, _, ha3', hA2, hcc2, hvr, hB', hk', hnetS, hbk2, hS, hnk2, hhas2, by omega, by omega, by omega, ⟨hla.1, by omega⟩, by omega, hVn, ‹_›, rfl, rfl, rfl⟩) (by repeat (first | exact envNil | refine envCons rfl ?_)) (by repeat (first | exact envNil | refine envCons rfl ?_)) (by repeat (first | exact subPnil | refine subPcons 3 rfl ?_))
        ·skip
         refine AW.split rfl (fun h262 => ?_) (fun h262 => ?_) <;> (try simp only [decide_eq_true_eq, decide_eq_false_iff_not, beq_iff_eq, beq_eq_false_iff_ne, bne_iff_ne, bne_eq_false_iff_eq, Bool.not_eq_true', Bool.not_eq_false', Bool.not_eq_true, Bool.not_eq_false, ne_eq, Int.not_lt, Int.not_le, Bool.and_eq_true, Bool.or_eq_true, Bool.or_eq_false_iff, Bool.and_eq_false_imp, strOf_toList, Decidable.not_not] at h262)
         ·skip
          exact absurd h262 (by simp)
         ·skip
          have hbk2 : BackU R (back ++ [(⟨Msg.none, now2⟩ : Pk)]) (k : Int) := hbk.snoc (.inl rfl)
          have hgb := pksB_snoc back Msg.none now2
          have hgbl : (back ++ [(⟨Msg.none, now2⟩ : Pk)]).length = back.length + 1 := by rw [List.length_append]; rfl
          refine AW.skip ?_
          refine AQ.thenN ?_
          refine AW.region ?_
          refine AO.op (O.move rfl rfl) rfl rfl rfl ?_
          (refine AO.op (O.loadK rfl rfl (by repeat (exact List.Mem.head _)) (by (dsimp only [List.set, List.append, List.cons_append, List.nil_append, roB_cells, roI_cells, roO_cells, roW_cells, roU_cells, roH_cells, roPt_cells, splice, ofConst, AV.cells, List.map, List.map_cons, List.map_nil, List.take, List.drop, Nat.zero_add, Nat.add_zero, Nat.reduceAdd, Nat.reduceMul, Nat.zero_mul, Value.cells, List.toList_toArray, zerosA, List.replicate, List.flatten, List.append_nil]; done)) (by rfl)) rfl rfl rfl ?_)
          refine AO.op (O.move rfl rfl) rfl rfl rfl ?_
          refine AO.op (O.build rfl rfl rfl (by rfl)) rfl rfl rfl ?_
          refine AO.opB (O.buildSlice rfl rfl rfl (by rfl) (by rfl) (by rfl) (by rfl)) rfl rfl rfl ?_
          intro B16
          refine AO.g ?_
          (refine G.freezeSl 0 339 rfl rfl ⟨Nat.le_refl _, by unfold maxLen; omega⟩ ?_)
          refine G.unfull 339 rfl ?_
          refine AO.u ?_
          dsimp only [List.eraseIdx]
          (refine AO.append' (i := 4) rfl rfl rfl rfl (by rfl) (by rfl) rfl rfl rfl (by exact SrcA.ro TyD.ax (by rfl) (Nat.le_of_ble_eq_true rfl)) (by rfl) (by (unfold maxLen; omega)) (by omega) (by (dsimp only [List.set, List.append, List.cons_append, List.nil_append, roB_cells, roI_cells, roO_cells, roW_cells, roU_cells, roH_cells, roPt_cells, splice, ofConst, AV.cells, List.map, List.map_cons, List.map_nil, List.take, List.drop, Nat.zero_add, Nat.add_zero, Nat.reduceAdd, Nat.reduceMul, Nat.zero_mul, Value.cells, List.toList_toArray, zerosA, List.replicate, List.flatten, List.append_nil]; done)) (fun _ => by (dsimp only [List.set]; done)) ?_)
          intro V17 hV17
          refine AO.op (O.assign rfl rfl) rfl rfl rfl ?_
          refine AO.nil ?_
          refine AQ.blockN ?_
          refine AQ.thenN ?_
          refine AW.seq ?_
          refine AW.region ?_
          refine AO.op (O.move rfl rfl) rfl rfl rfl ?_
          refine AO.op (O.gtr rfl rfl rfl (by exact bFalse (by omega))) rfl rfl rfl ?_
          refine AO.nil ?_
          refine AQ.thenN ?_
          refine AW.condF rfl ?_
          refine AW.skip ?_
          refine AQ.blockN ?_
          rw [show pksA back ++ _ = _ from hgb, ← hgbl]
          refine AQ.loopKN _ _ _ (by omega) (⟨_, now2, last, num, k, done, c2, w2, a2, r1, net2, _, ps, _, _, ha3', hA2, hcc2, hvr, hB', hk', hnetS, hbk2, hS, hnk2, hhas2, by omega, by omega, by omega, ⟨hla.1, by omega⟩, by omega, hVn, ‹_›, rfl, rfl, rfl⟩) (by repeat (first | exact envNil | refine envCons rfl ?_)) (by repeat (first | exact envNil | refine envCons rfl ?_)) (by repeat (first | exact subPnil | refine subPcons 3 rfl ?_))
        ·skip
         refine AW.split rfl (fun h262 => ?_) (fun h262 => ?_) <;> (try simp only [decide_eq_true_eq, decide_eq_false_iff_not, beq_iff_eq, beq_eq_false_iff_ne, bne_iff_ne, bne_eq_false_iff_eq, Bool.not_eq_true', Bool.not_eq_false', Bool.not_eq_true, Bool.not_eq_false, ne_eq, Int.not_lt, Int.not_le, Bool.and_eq_true, Bool.or_eq_true, Bool.or_eq_false_iff, Bool.and_eq_false_imp, strOf_toList, Decidable.not_not] at h262)
         ·skip
          have hik : i = (k : Int) ∧ num = k := by
           have h1 : ¬(0 ≤ qq.m.id ∧ qq.m.id < (k : Int)) := fun h => hnd (upD_mem.2 h)
           rcases hcc2 with ⟨-, h⟩ | ⟨-, h⟩ <;> omega
          obtain ⟨rfl, rfl⟩ := hik
          have hqi : qq.m.id = (num : Int) := hqi0
          have hhb : hasB body (szN sz) num := hhas2 num (by omega)
          obtain ⟨mk, hmk⟩ : ∃ mk, mk = moreB body (szN sz) num := ⟨_, rfl⟩
          obtain ⟨vv, hvv⟩ : ∃ vv, vv = fromU (valB sz (num : Int) mk) := ⟨_, rfl⟩
          have hqo : qq.m.opts = [⟨27, vv⟩] := by rw [hqm, hF, hvv, hmk]; rfl
          have hqp : qq.m.pay = cutB body (szN sz) num := by rw [hqm, hF]; rfl
          have hvl : vv.length ≤ 4 := by rw [hvv]; exact fromU_len _
          have hget : Sp Tryz.prog 17 [aggM qq.m, .val (.int .i64 27)] [] (Is (.tup [roB vv, .val (.bool true)])) := by
           have := oget_fn qq.m 27 (by rw [hqo]; simp) (by rw [hqo]; intro o ho; obtain rfl := List.mem_singleton.1 ho; show vv.length ≤ _; omega)
           rw [hqo] at this
           exact this
          have hparse := bparse_fn num mk sz ⟨by omega, by omega⟩ hs
          rw [← hvv] at hparse
          obtain ⟨ps2, wh, is, pe, hput, hpx⟩ := put_any (now := now2) hs hb (by omega) hS hhb hla.1 ⟨by omega, by omega⟩
          rw [← hqp, ← hmk] at hput
          have hd0 : done = 0 := (hS.next hhb).1
          have hRk : R qq.m.id = ackM ⟨0, 68, 0, [], [⟨27, vv⟩], []⟩ qq.m.id := by rw [hR, hqi, hvv, hmk]; rfl
          have hans := hans ⟨0, 68, 0, [], [⟨27, vv⟩], []⟩ (by rw [← hRk, hqi]; exact hRv _ ⟨by omega, by omega⟩) R (fun _ _ => rfl) hRk
          refine AW.seq ?_
          refine AW.region ?_
          refine AO.op (O.fieldAddr rfl rfl) rfl rfl rfl ?_
          (refine AO.op (O.loadK rfl rfl (by repeat (first | exact List.Mem.head _ | refine List.Mem.tail _ ?_)) (by (dsimp only [List.set, List.append, List.cons_append, List.nil_append, roB_cells, roI_cells, roO_cells, roW_cells, roU_cells, roH_cells, roPt_cells, splice, ofConst, AV.cells, List.map, List.map_cons, List.map_nil, List.take, List.drop, Nat.zero_add, Nat.add_zero, Nat.reduceAdd, Nat.reduceMul, Nat.zero_mul, Value.cells, List.toList_toArray, zerosA, List.replicate, List.flatten, List.append_nil]; done)) (by rfl)) rfl rfl rfl ?_)
          refine AO.op (O.call rfl Tryz.func17 rfl rfl rfl (hget)) rfl rfl rfl ?_
          refine AO.op (O.move rfl rfl) rfl rfl rfl ?_
          refine AO.op (O.extract rfl rfl rfl) rfl rfl rfl ?_
          refine AO.op (O.extract rfl rfl rfl) rfl rfl rfl ?_
          refine AO.op (O.assign rfl rfl) rfl rfl rfl ?_
          refine AO.op (O.assign rfl rfl) rfl rfl rfl ?_
          refine AO.nil ?_
          refine AQ.thenN ?_
          refine AW.seq ?_
          refine AW.region ?_
          refine AO.op (O.move rfl rfl) rfl rfl rfl ?_
          refine AO.op (O.call rfl Tryz.func27 rfl rfl rfl (hparse)) rfl rfl rfl ?_
          refine AO.op (O.move rfl rfl) rfl rfl rfl ?_
          refine AO.op (O.extract rfl rfl rfl) rfl rfl rfl ?_
          refine AO.op (O.extract rfl rfl rfl) rfl rfl rfl ?_
          refine AO.opB (O.alloc rfl (by (dsimp only [List.set, List.append, List.cons_append, List.nil_append, roB_cells, roI_cells, roO_cells, roW_cells, roU_cells, roH_cells, roPt_cells, splice, ofConst, AV.cells, List.map, List.map_cons, List.map_nil, List.take, List.drop, Nat.zero_add, Nat.add_zero, Nat.reduceAdd, Nat.reduceMul, Nat.zero_mul, Value.cells, List.toList_toArray, zerosA, List.replicate, List.flatten, List.append_nil]; done)) (by rfl)) rfl rfl rfl ?_
          intro B16
          (refine AO.store (i := 0) rfl rfl rfl rfl rfl rfl (by rfl) (by rfl) (by rfl) (by (dsimp only [List.set, List.append, List.cons_append, List.nil_append, roB_cells, roI_cells, roO_cells, roW_cells, roU_cells, roH_cells, roPt_cells, splice, ofConst, AV.cells, List.map, List.map_cons, List.map_nil, List.take, List.drop, Nat.zero_add, Nat.add_zero, Nat.reduceAdd, Nat.reduceMul, Nat.zero_mul, Value.cells, List.toList_toArray, zerosA, List.replicate, List.flatten, List.append_nil]; done)) (by (dsimp only [List.set, List.append, List.cons_append, List.nil_append, roB_cells, roI_cells, roO_cells, roW_cells, roU_cells, roH_cells, roPt_cells, splice, ofConst, AV.cells, List.map, List.map_cons, List.map_nil, List.take, List.drop, Nat.zero_add, Nat.add_zero, Nat.reduceAdd, Nat.reduceMul, Nat.zero_mul, Value.cells, List.toList_toArray, zerosA, List.replicate, List.flatten, List.append_nil]; done)) ?_)
          refine AO.op (O.assign rfl rfl) rfl rfl rfl ?_
          refine AO.nil ?_
          refine AQ.thenN ?_
          refine AW.seq ?_
          refine AW.region ?_
          refine AO.op (O.move rfl rfl) rfl rfl rfl ?_
          (refine AO.op (O.loadK rfl rfl (by repeat (exact List.Mem.head _)) (by (dsimp only [List.set, List.append, List.cons_append, List.nil_append, roB_cells, roI_cells, roO_cells, roW_cells, roU_cells, roH_cells, roPt_cells, splice, ofConst, AV.cells, List.map, List.map_cons, List.map_nil, List.take, List.drop, Nat.zero_add, Nat.add_zero, Nat.reduceAdd, Nat.reduceMul, Nat.zero_mul, Value.cells, List.toList_toArray, zerosA, List.replicate, List.flatten, List.append_nil]; done)) (by rfl)) rfl rfl rfl ?_)
          refine AO.op (O.fieldAddr rfl rfl) rfl rfl rfl ?_
          refine AO.op (O.fieldAddr rfl rfl) rfl rfl rfl ?_
          refine AO.op (O.load rfl rfl (by repeat (first | exact List.Mem.head _ | refine List.Mem.tail _ ?_)) (by rfl)) rfl rfl rfl ?_
          refine AO.op (O.move rfl rfl) rfl rfl rfl ?_
          (refine AO.op (O.callC rfl Tryz.func28 rfl rfl rfl (hput) (by (repeat (first | exact CoeL.nil | refine CoeL.cons Coe.rfl ?_ | refine CoeL.cons Coe.nil ?_)); done)) rfl rfl rfl ?_)
          refine AO.op (O.move rfl rfl) rfl rfl rfl ?_
          refine AO.op (O.extract rfl rfl rfl) rfl rfl rfl ?_
          refine AO.op (O.extract rfl rfl rfl) rfl rfl rfl ?_
          refine AO.op (O.extract rfl rfl rfl) rfl rfl rfl ?_
          refine AO.op (O.extract rfl rfl rfl) rfl rfl rfl ?_
          refine AO.op (O.assign rfl rfl) rfl rfl rfl ?_
          refine AO.op (O.assign rfl rfl) rfl rfl rfl ?_
          refine AO.op (O.assign rfl rfl) rfl rfl rfl ?_
          refine AO.op (O.assign rfl rfl) rfl rfl rfl ?_
          refine AO.nil ?_
          refine AQ.thenN ?_
          refine AW.seq ?_
          refine AW.seq ?_
          refine AW.region ?_
          refine AO.op (O.move rfl rfl) rfl rfl rfl ?_
          refine AO.op (O.eql rfl rfl rfl (by rfl)) rfl rfl rfl ?_
          refine AO.op (O.move rfl rfl) rfl rfl rfl ?_
          refine AO.opG rfl rfl rfl (fun hp => O.move rfl rfl) ?_
          refine AO.opG rfl rfl rfl (fun hp => OpW.force 289 rfl (by exact hp) (O.gtr rfl rfl rfl (by rfl))) ?_
          refine AO.op (O.pickAnd rfl rfl rfl rfl (fun h => by exact h)) rfl rfl rfl ?_
          refine AO.op (O.move rfl rfl) rfl rfl rfl ?_
          refine AO.opG rfl rfl rfl (fun hp => O.move rfl rfl) ?_
          refine AO.opG rfl rfl rfl (fun hp => O.move rfl rfl) ?_
          refine AO.opG rfl rfl rfl (fun hp => OpW.force 293 rfl (by exact hp) (OpW.force 294 rfl (by exact hp) (O.sub rfl rfl rfl (by exact wI64 (by omega))))) ?_
          refine AO.opG rfl rfl rfl (fun hp => OpW.force 295 rfl (by exact hp) (O.geq rfl rfl rfl (by rfl))) ?_
          refine AO.op (O.pickAnd rfl rfl rfl rfl (fun h => by exact h)) rfl rfl rfl ?_
          refine AO.nil ?_
          refine AQ.thenN ?_
          refine AW.split rfl (fun h297 => ?_) (fun h297 => ?_) <;> (try simp only [decide_eq_true_eq, decide_eq_false_iff_not, beq_iff_eq, beq_eq_false_iff_ne, bne_iff_ne, bne_eq_false_iff_eq, Bool.not_eq_true', Bool.not_eq_false', Bool.not_eq_true, Bool.not_eq_false, ne_eq, Int.not_lt, Int.not_le, Bool.and_eq_true, Bool.or_eq_true, Bool.or_eq_false_iff, Bool.and_eq_false_imp, strOf_toList, Decidable.not_not] at h297)
          ·skip
           refine AW.seq ?_
           refine AW.region ?_
           refine AO.op (O.move rfl rfl) rfl rfl rfl ?_
           refine AO.op (O.leq rfl rfl rfl (by exact bTrue (by omega))) rfl rfl rfl ?_
           refine AO.op (O.move rfl rfl) rfl rfl rfl ?_
           refine AO.callK hK notFoot_nil rfl rfl Tryz.func8 rfl rfl rfl rfl rfl (awakeT_fn) ?_
           refine AO.op (O.pickT rfl rfl rfl) rfl rfl rfl ?_
           refine AO.op (O.assign rfl rfl) rfl rfl rfl ?_
           refine AO.nil ?_
           refine AQ.thenN ?_
           refine AW.ret ?_
           refine AQ.thenR ?_
           refine AQ.thenR ?_
           refine AQ.blockR ?_
           refine AQ.thenR ?_
           refine AQ.blockR ?_
           refine AQ.loopR ?_
           refine AQ.blockR ?_
           refine AQ.thenR ?_
           refine AQ.ret1 rfl rfl ⟨_, List.nil_sublist _, .nil⟩ (⟨rfl, rfl⟩)
          ·skip
           have hpx2 := hpx.resolve_left (fun h => by obtain ⟨h1, h2, h3⟩ := h; omega)
           have hpe : pe = 0 := by rcases hpx2 with h | h <;> exact h.1
           subst hpe
           refine AW.skip ?_
           refine AQ.thenN ?_
           refine AW.seq ?_
           refine AW.seq ?_
           refine AW.region ?_
           refine AO.op (O.move rfl rfl) rfl rfl rfl ?_
           refine AO.op (O.neq rfl rfl rfl (by exact bne_eq_false_iff_eq.2 (by omega))) rfl rfl rfl ?_
           refine AO.op (O.move rfl rfl) rfl rfl rfl ?_
           refine AO.op (O.move rfl rfl) rfl rfl rfl ?_
           refine AO.op (O.neq rfl rfl rfl (by exact bne_eq_false_iff_eq.2 (by omega))) rfl rfl rfl ?_
           refine AO.op (O.pickF rfl rfl rfl) rfl rfl rfl ?_
           refine AO.nil ?_
           refine AQ.thenN ?_
           refine AW.split rfl (fun h308 => ?_) (fun h308 => ?_) <;> (try simp only [decide_eq_true_eq, decide_eq_false_iff_not, beq_iff_eq, beq_eq_false_iff_ne, bne_iff_ne, bne_eq_false_iff_eq, Bool.not_eq_true', Bool.not_eq_false', Bool.not_eq_true, Bool.not_eq_false, ne_eq, Int.not_lt, Int.not_le, Bool.and_eq_true, Bool.or_eq_true, Bool.or_eq_false_iff, Bool.and_eq_false_imp, strOf_toList, Decidable.not_not] at h308)
           ·skip
            exact absurd h308 (by simp)
           ·skip
            refine AW.skip ?_
            refine AQ.thenN ?_
            refine AW.seq ?_
            refine AW.region ?_
            refine AO.op (O.move rfl rfl) rfl rfl rfl ?_
            refine AO.op (O.move rfl rfl) rfl rfl rfl ?_
            refine AO.op (O.assign rfl rfl) rfl rfl rfl ?_
            refine AO.op (O.assign rfl rfl) rfl rfl rfl ?_
            refine AO.nil ?_
            refine AQ.thenN ?_
            refine AW.seq ?_
            refine AW.seq ?_
            refine AW.region ?_
            refine AO.op (O.move rfl rfl) rfl rfl rfl ?_
            refine AO.nil ?_
            refine AQ.thenN ?_
            refine AW.split rfl (fun his => ?_) (fun his => ?_) <;> (try simp only [decide_eq_true_eq, decide_eq_false_iff_not, beq_iff_eq, beq_eq_false_iff_ne, bne_iff_ne, bne_eq_false_iff_eq, Bool.not_eq_true', Bool.not_eq_false', Bool.not_eq_true, Bool.not_eq_false, ne_eq, Int.not_lt, Int.not_le, Bool.and_eq_true, Bool.or_eq_true, Bool.or_eq_false_iff, Bool.and_eq_false_imp, strOf_toList, Decidable.not_not] at his)
            ·skip
             obtain ⟨rfl, hS2⟩ : wh = body ∧ SrvP body (szN sz) (num + 1) ps2 now2 1 := by
              rcases hpx2 with ⟨-, h, -⟩ | ⟨-, -, h1, h2⟩
              ·rw [his] at h; cases h
              ·exact ⟨h1, h2⟩
             have hS3 : SrvP wh (szN sz) (num + 1) ps2 now2 (done + 1) := by rw [hd0]; exact hS2
             refine AW.seq ?_
             refine AW.region ?_
             refine AO.op (O.move rfl rfl) rfl rfl rfl ?_
             refine AO.op (O.add rfl rfl rfl (by exact wI64 (by omega))) rfl rfl rfl ?_
             refine AO.op (O.assign rfl rfl) rfl rfl rfl ?_
             refine AO.nil ?_
             refine AQ.thenN ?_
             refine AW.seq ?_
             refine AW.region ?_
             refine AO.op (O.move rfl rfl) rfl rfl rfl ?_
             refine AO.op (O.convS rfl rfl (by rfl)) rfl rfl rfl ?_
             refine AO.op (O.move rfl rfl) rfl rfl rfl ?_
             refine AO.op (O.convS rfl rfl (by rfl)) rfl rfl rfl ?_
             refine AO.op (O.neqS rfl rfl rfl (by rfl)) rfl rfl rfl ?_
             refine AO.nil ?_
             refine AQ.thenN ?_
             refine AW.split rfl (fun h318 => ?_) (fun h318 => ?_) <;> (try simp only [decide_eq_true_eq, decide_eq_false_iff_not, beq_iff_eq, beq_eq_false_iff_ne, bne_iff_ne, bne_eq_false_iff_eq, Bool.not_eq_true', Bool.not_eq_false', Bool.not_eq_true, Bool.not_eq_false, ne_eq, Int.not_lt, Int.not_le, Bool.and_eq_true, Bool.or_eq_true, Bool.or_eq_false_iff, Bool.and_eq_false_imp, strOf_toList, Decidable.not_not] at h318)
             ·skip
              exact absurd h318 (by simp)
             ·skip
              refine AW.skip ?_
              refine AQ.thenN ?_
              refine AW.seq ?_
              refine AW.region ?_
              (refine AO.op (O.loadK rfl rfl (by repeat (first | exact List.Mem.head _ | refine List.Mem.tail _ ?_)) (by (dsimp only [List.set, List.append, List.cons_append, List.nil_append, roB_cells, roI_cells, roO_cells, roW_cells, roU_cells, roH_cells, roPt_cells, splice, ofConst, AV.cells, List.map, List.map_cons, List.map_nil, List.take, List.drop, Nat.zero_add, Nat.add_zero, Nat.reduceAdd, Nat.reduceMul, Nat.zero_mul, Value.cells, List.toList_toArray, zerosA, List.replicate, List.flatten, List.append_nil]; done)) (by rfl)) rfl rfl rfl ?_)
              refine AO.op (O.fieldAddr rfl rfl) rfl rfl rfl ?_
              refine AO.op (O.fieldAddr rfl rfl) rfl rfl rfl ?_
              refine AO.op (O.load rfl rfl (by repeat (first | exact List.Mem.head _ | refine List.Mem.tail _ ?_)) (by rfl)) rfl rfl rfl ?_
              refine AO.op (O.move rfl rfl) rfl rfl rfl ?_
              refine AO.op (O.build rfl rfl rfl (by rfl)) rfl rfl rfl ?_
              refine AO.opB (O.buildSlice rfl rfl rfl (by rfl) (by rfl) (by rfl) (by rfl)) rfl rfl rfl ?_
              intro B17
              refine AO.g ?_
              (refine G.freezeSl 0 326 rfl rfl ⟨Nat.le_refl _, by unfold maxLen; omega⟩ ?_)
              refine G.unfull 326 rfl ?_
              refine AO.u ?_
              dsimp only [List.eraseIdx]
              refine AO.op (O.build rfl rfl rfl (by rfl)) rfl rfl rfl ?_
              refine AO.op (O.move rfl rfl) rfl rfl rfl ?_
              (refine AO.op (O.callC rfl Tryz.func23 rfl rfl rfl (answer_fn r1 _ _ ⟨0, 68, 0, [], [⟨27, vv⟩], []⟩ _ hbdR) (by (repeat (first | exact CoeL.nil | refine CoeL.cons Coe.rfl ?_ | refine CoeL.cons Coe.nil ?_ | refine CoeL.cons (Coe.agg ?_) ?_)); done)) rfl rfl rfl ?_)
              refine AO.op (O.move rfl rfl) rfl rfl rfl ?_
              refine AO.op (O.extract rfl rfl rfl) rfl rfl rfl ?_
              refine AO.op (O.extract rfl rfl rfl) rfl rfl rfl ?_
              refine AO.op (O.extract rfl rfl rfl) rfl rfl rfl ?_
              (refine AO.store (i := 6) rfl rfl rfl rfl rfl rfl (by rfl) (by rfl) (by rfl) (by (dsimp only [List.set, List.append, List.cons_append, List.nil_append, roB_cells, roI_cells, roO_cells, roW_cells, roU_cells, roH_cells, roPt_cells, splice, ofConst, AV.cells, List.map, List.map_cons, List.map_nil, List.take, List.drop, Nat.zero_add, Nat.add_zero, Nat.reduceAdd, Nat.reduceMul, Nat.zero_mul, Value.cells, List.toList_toArray, zerosA, List.replicate, List.flatten, List.append_nil]; done)) (by (dsimp only [List.set, List.append, List.cons_append, List.nil_append, roB_cells, roI_cells, roO_cells, roW_cells, roU_cells, roH_cells, roPt_cells, splice, ofConst, AV.cells, List.map, List.map_cons, List.map_nil, List.take, List.drop, Nat.zero_add, Nat.add_zero, Nat.reduceAdd, Nat.reduceMul, Nat.zero_mul, Value.cells, List.toList_toArray, zerosA, List.replicate, List.flatten, List.append_nil]; done)) ?_)
              (refine AO.store (i := 1) rfl rfl rfl rfl rfl rfl (by rfl) (by rfl) (by rfl) (by (dsimp only [List.set, List.append, List.cons_append, List.nil_append, roB_cells, roI_cells, roO_cells, roW_cells, roU_cells, roH_cells, roPt_cells, splice, ofConst, AV.cells, List.map, List.map_cons, List.map_nil, List.take, List.drop, Nat.zero_add, Nat.add_zero, Nat.reduceAdd, Nat.reduceMul, Nat.zero_mul, Value.cells, List.toList_toArray, zerosA, List.replicate, List.flatten, List.append_nil]; done)) (by (dsimp only [List.set, List.append, List.cons_append, List.nil_append, roB_cells, roI_cells, roO_cells, roW_cells, roU_cells, roH_cells, roPt_cells, splice, ofConst, AV.cells, List.map, List.map_cons, List.map_nil, List.take, List.drop, Nat.zero_add, Nat.add_zero, Nat.reduceAdd, Nat.reduceMul, Nat.zero_mul, Value.cells, List.toList_toArray, zerosA, List.replicate, List.flatten, List.append_nil]; done)) ?_)
              refine AO.op (O.assign rfl rfl) rfl rfl rfl ?_
              refine AO.nil ?_
              refine AQ.thenN ?_
              refine AW.seq ?_
              refine AW.region ?_
              refine AO.op (O.move rfl rfl) rfl rfl rfl ?_
              refine AO.op (O.neq rfl rfl rfl (by exact bne_eq_false_iff_eq.2 (by omega))) rfl rfl rfl ?_
              refine AO.nil ?_
              refine AQ.thenN ?_
              generalize answerR r1 0 qq.m.id ⟨0, 68, 0, [], [⟨27, vv⟩], []⟩ now2 = s at *
              obtain ⟨s1, s2, s3⟩ := s
              dsimp only at hans ⊢
              obtain ⟨rfl, rfl, hvs, hBs, hks⟩ := hans
              refine AW.split rfl (fun h334 => ?_) (fun h334 => ?_) <;> (try simp only [decide_eq_true_eq, decide_eq_false_iff_not, beq_iff_eq, beq_eq_false_iff_ne, bne_iff_ne, bne_eq_false_iff_eq, Bool.not_eq_true', Bool.not_eq_false', Bool.not_eq_true, Bool.not_eq_false, ne_eq, Int.not_lt, Int.not_le, Bool.and_eq_true, Bool.or_eq_true, Bool.or_eq_false_iff, Bool.and_eq_false_imp, strOf_toList, Decidable.not_not] at h334)
              ·skip
               exact absurd h334 (by simp)
              ·skip
               have hBs2 := hBs.mem (fun i h => (upD_cons hqi i).1 h)
               have hks2 := hks.mem (fun i h => (upD_cons hqi i).2 h)
               have hbk2 : BackU R (back ++ [(⟨ackM ⟨0, 68, 0, [], [⟨27, vv⟩], []⟩ qq.m.id, now2⟩ : Pk)]) ((num + 1 : Nat) : Int) := (hbk.later (by omega)).snoc (.inr ⟨(num : Int), by omega, by omega, by rw [← hRk, hqi]⟩)
               have hgb := pksB_snoc back (ackM ⟨0, 68, 0, [], [⟨27, vv⟩], []⟩ qq.m.id) now2
               have hgbl : (back ++ [(⟨ackM ⟨0, 68, 0, [], [⟨27, vv⟩], []⟩ qq.m.id, now2⟩ : Pk)]).length = back.length + 1 := by rw [List.length_append]; rfl
               refine AW.skip ?_
               refine AQ.thenN ?_
               refine AW.region ?_
               refine AO.op (O.move rfl rfl) rfl rfl rfl ?_
               (refine AO.op (O.loadK rfl rfl (by repeat (first | exact List.Mem.head _ | refine List.Mem.tail _ ?_)) (by (dsimp only [List.set, List.append, List.cons_append, List.nil_append, roB_cells, roI_cells, roO_cells, roW_cells, roU_cells, roH_cells, roPt_cells, splice, ofConst, AV.cells, List.map, List.map_cons, List.map_nil, List.take, List.drop, Nat.zero_add, Nat.add_zero, Nat.reduceAdd, Nat.reduceMul, Nat.zero_mul, Value.cells, List.toList_toArray, zerosA, List.replicate, List.flatten, List.append_nil]; done)) (by rfl)) rfl rfl rfl ?_)
               refine AO.op (O.move rfl rfl) rfl rfl rfl ?_
               refine AO.op (O.build rfl rfl rfl (by rfl)) rfl rfl rfl ?_
               refine AO.opB (O.buildSlice rfl rfl rfl (by rfl) (by rfl) (by rfl) (by rfl)) rfl rfl rfl ?_
               intro B18
               refine AO.g ?_
               (refine G.freezeSl 0 339 rfl rfl ⟨Nat.le_refl _, by unfold maxLen; omega⟩ ?_)
               refine G.unfull 339 rfl ?_
               refine AO.u ?_
               dsimp only [List.eraseIdx]
               (refine AO.append' (i := 5) rfl rfl rfl rfl (by rfl) (by rfl) rfl rfl rfl (by exact SrcA.ro TyD.ax (by rfl) (Nat.le_of_ble_eq_true rfl)) (by rfl) (by (unfold maxLen; omega)) (by omega) (by (dsimp only [List.set, List.append, List.cons_append, List.nil_append, roB_cells, roI_cells, roO_cells, roW_cells, roU_cells, roH_cells, roPt_cells, splice, ofConst, AV.cells, List.map, List.map_cons, List.map_nil, List.take, List.drop, Nat.zero_add, Nat.add_zero, Nat.reduceAdd, Nat.reduceMul, Nat.zero_mul, Value.cells, List.toList_toArray, zerosA, List.replicate, List.flatten, List.append_nil]; done)) (fun _ => by (dsimp only [List.set]; done)) ?_)
               intro V19 hV19
               refine AO.op (O.assign rfl rfl) rfl rfl rfl ?_
               refine AO.nil ?_
               refine AQ.blockN ?_
               refine AQ.thenN ?_
               refine AW.seq ?_
               refine AW.region ?_
               refine AO.op (O.move rfl rfl) rfl rfl rfl ?_
               refine AO.op (O.gtr rfl rfl rfl (by exact bFalse (by omega))) rfl rfl rfl ?_
               refine AO.nil ?_
               refine AQ.thenN ?_
               refine AW.condF rfl ?_
               refine AW.skip ?_
               refine AQ.blockN ?_
               rw [show pksA back ++ _ = _ from hgb, ← hgbl]
               refine AQ.loopKN _ _ _ (by omega) (⟨_, now2, now2, num, num + 1, done + 1, c2, w2, a2, s1, net2, _, ps2, _, _, ha3', hA2, hcc2, hvs, hBs2, hks2, hnetS, hbk2, hS3, ⟨by omega, by omega⟩, hhas2, by omega, by omega, by omega, ⟨by omega, by omega⟩, by omega, hVn, ‹_›, rfl, rfl, rfl⟩) (by repeat (first | exact envNil | refine envCons rfl ?_)) (by repeat (first | exact envNil | refine envCons rfl ?_)) (by repeat (first | exact subPnil | refine subPcons 4 rfl ?_))
            ·skip
             have hS3 : SrvP body (szN sz) (num + 1) ps2 now2 done := by
              rcases hpx2 with ⟨-, -, h⟩ | ⟨-, h, -⟩
              ·rw [hd0]; exact h
              ·rw [his] at h; cases h
             refine AW.skip ?_
             refine AQ.thenN ?_
             refine AW.seq ?_
             refine AW.region ?_
             (refine AO.op (O.loadK rfl rfl (by repeat (first | exact List.Mem.head _ | refine List.Mem.tail _ ?_)) (by (dsimp only [List.set, List.append, List.cons_append, List.nil_append, roB_cells, roI_cells, roO_cells, roW_cells, roU_cells, roH_cells, roPt_cells, splice, ofConst, AV.cells, List.map, List.map_cons, List.map_nil, List.take, List.drop, Nat.zero_add, Nat.add_zero, Nat.reduceAdd, Nat.reduceMul, Nat.zero_mul, Value.cells, List.toList_toArray, zerosA, List.replicate, List.flatten, List.append_nil]; done)) (by rfl)) rfl rfl rfl ?_)
             refine AO.op (O.fieldAddr rfl rfl) rfl rfl rfl ?_
             refine AO.op (O.fieldAddr rfl rfl) rfl rfl rfl ?_
             refine AO.op (O.load rfl rfl (by repeat (first | exact List.Mem.head _ | refine List.Mem.tail _ ?_)) (by rfl)) rfl rfl rfl ?_
             refine AO.op (O.move rfl rfl) rfl rfl rfl ?_
             refine AO.op (O.build rfl rfl rfl (by rfl)) rfl rfl rfl ?_
             refine AO.opB (O.buildSlice rfl rfl rfl (by rfl) (by rfl) (by rfl) (by rfl)) rfl rfl rfl ?_
             intro B20
             refine AO.g ?_
             (refine G.freezeSl 0 326 rfl rfl ⟨Nat.le_refl _, by unfold maxLen; omega⟩ ?_)
             refine G.unfull 326 rfl ?_
             refine AO.u ?_
             dsimp only [List.eraseIdx]
             refine AO.op (O.build rfl rfl rfl (by rfl)) rfl rfl rfl ?_
             refine AO.op (O.move rfl rfl) rfl rfl rfl ?_
             (refine AO.op (O.callC rfl Tryz.func23 rfl rfl rfl (answer_fn r1 _ _ ⟨0, 68, 0, [], [⟨27, vv⟩], []⟩ _ hbdR) (by (repeat (first | exact CoeL.nil | refine CoeL.cons Coe.rfl ?_ | refine CoeL.cons Coe.nil ?_ | refine CoeL.cons (Coe.agg ?_) ?_)); done)) rfl rfl rfl ?_)
             refine AO.op (O.move rfl rfl) rfl rfl rfl ?_
             refine AO.op (O.extract rfl rfl rfl) rfl rfl rfl ?_
             refine AO.op (O.extract rfl rfl rfl) rfl rfl rfl ?_
             refine AO.op (O.extract rfl rfl rfl) rfl rfl rfl ?_
             (refine AO.store (i := 6) rfl rfl rfl rfl rfl rfl (by rfl) (by rfl) (by rfl) (by (dsimp only [List.set, List.append, List.cons_append, List.nil_append, roB_cells, roI_cells, roO_cells, roW_cells, roU_cells, roH_cells, roPt_cells, splice, ofConst, AV.cells, List.map, List.map_cons, List.map_nil, List.take, List.drop, Nat.zero_add, Nat.add_zero, Nat.reduceAdd, Nat.reduceMul, Nat.zero_mul, Value.cells, List.toList_toArray, zerosA, List.replicate, List.flatten, List.append_nil]; done)) (by (dsimp only [List.set, List.append, List.cons_append, List.nil_append, roB_cells, roI_cells, roO_cells, roW_cells, roU_cells, roH_cells, roPt_cells, splice, ofConst, AV.cells, List.map, List.map_cons, List.map_nil, List.take, List.drop, Nat.zero_add, Nat.add_zero, Nat.reduceAdd, Nat.reduceMul, Nat.zero_mul, Value.cells, List.toList_toArray, zerosA, List.replicate, List.flatten, List.append_nil]; done)) ?_)
             (refine AO.store (i := 1) rfl rfl rfl rfl rfl rfl (by rfl) (by rfl) (by rfl) (by (dsimp only [List.set, List.append, List.cons_append, List.nil_append, roB_cells, roI_cells, roO_cells, roW_cells, roU_cells, roH_cells, roPt_cells, splice, ofConst, AV.cells, List.map, List.map_cons, List.map_nil, List.take, List.drop, Nat.zero_add, Nat.add_zero, Nat.reduceAdd, Nat.reduceMul, Nat.zero_mul, Value.cells, List.toList_toArray, zerosA, List.replicate, List.flatten, List.append_nil]; done)) (by (dsimp only [List.set, List.append, List.cons_append, List.nil_append, roB_cells, roI_cells, roO_cells, roW_cells, roU_cells, roH_cells, roPt_cells, splice, ofConst, AV.cells, List.map, List.map_cons, List.map_nil, List.take, List.drop, Nat.zero_add, Nat.add_zero, Nat.reduceAdd, Nat.reduceMul, Nat.zero_mul, Value.cells, List.toList_toArray, zerosA, List.replicate, List.flatten, List.append_nil]; done)) ?_)
             refine AO.op (O.assign rfl rfl) rfl rfl rfl ?_
             refine AO.nil ?_
             refine AQ.thenN ?_
             refine AW.seq ?_
             refine AW.region ?_
             refine AO.op (O.move rfl rfl) rfl rfl rfl ?_
             refine AO.op (O.neq rfl rfl rfl (by exact bne_eq_false_iff_eq.2 (by omega))) rfl rfl rfl ?_
             refine AO.nil ?_
             refine AQ.thenN ?_
             generalize answerR r1 0 qq.m.id ⟨0, 68, 0, [], [⟨27, vv⟩], []⟩ now2 = s at *
             obtain ⟨s1, s2, s3⟩ := s
             dsimp only at hans ⊢
             obtain ⟨rfl, rfl, hvs, hBs, hks⟩ := hans
             refine AW.split rfl (fun h334 => ?_) (fun h334 => ?_) <;> (try simp only [decide_eq_true_eq, decide_eq_false_iff_not, beq_iff_eq, beq_eq_false_iff_ne, bne_iff_ne, bne_eq_false_iff_eq, Bool.not_eq_true', Bool.not_eq_false', Bool.not_eq_true, Bool.not_eq_false, ne_eq, Int.not_lt, Int.not_le, Bool.and_eq_true, Bool.or_eq_true, Bool.or_eq_false_iff, Bool.and_eq_false_imp, strOf_toList, Decidable.not_not] at h334)
             ·skip
              exact absurd h334 (by simp)
             ·skip
              have hBs2 := hBs.mem (fun i h => (upD_cons hqi i).1 h)
              have hks2 := hks.mem (fun i h => (upD_cons hqi i).2 h)
              have hbk2 : BackU R (back ++ [(⟨ackM ⟨0, 68, 0, [], [⟨27, vv⟩], []⟩ qq.m.id, now2⟩ : Pk)]) ((num + 1 : Nat) : Int) := (hbk.later (by omega)).snoc (.inr ⟨(num : Int), by omega, by omega, by rw [← hRk, hqi]⟩)
              have hgb := pksB_snoc back (ackM ⟨0, 68, 0, [], [⟨27, vv⟩], []⟩ qq.m.id) now2
              have hgbl : (back ++ [(⟨ackM ⟨0, 68, 0, [], [⟨27, vv⟩], []⟩ qq.m.id, now2⟩ : Pk)]).length = back.length + 1 := by rw [List.length_append]; rfl
              refine AW.skip ?_
              refine AQ.thenN ?_
              refine AW.region ?_
              refine AO.op (O.move rfl rfl) rfl rfl rfl ?_
              (refine AO.op (O.loadK rfl rfl (by repeat (first | exact List.Mem.head _ | refine List.Mem.tail _ ?_)) (by (dsimp only [List.set, List.append, List.cons_append, List.nil_append, roB_cells, roI_cells, roO_cells, roW_cells, roU_cells, roH_cells, roPt_cells, splice, ofConst, AV.cells, List.map, List.map_cons, List.map_nil, List.take, List.drop, Nat.zero_add, Nat.add_zero, Nat.reduceAdd, Nat.reduceMul, Nat.zero_mul, Value.cells, List.toList_toArray, zerosA, List.replicate, List.flatten, List.append_nil]; done)) (by rfl)) rfl rfl rfl ?_)
              refine AO.op (O.move rfl rfl) rfl rfl rfl ?_
              refine AO.op (O.build rfl rfl rfl (by rfl)) rfl rfl rfl ?_
              refine AO.opB (O.buildSlice rfl rfl rfl (by rfl) (by rfl) (by rfl) (by rfl)) rfl rfl rfl ?_
              intro B21
              refine AO.g ?_
              (refine G.freezeSl 0 339 rfl rfl ⟨Nat.le_refl _, by unfold maxLen; omega⟩ ?_)
              refine G.unfull 339 rfl ?_
              refine AO.u ?_
              dsimp only [List.eraseIdx]
              (refine AO.append' (i := 5) rfl rfl rfl rfl (by rfl) (by rfl) rfl rfl rfl (by exact SrcA.ro TyD.ax (by rfl) (Nat.le_of_ble_eq_true rfl)) (by rfl) (by (unfold maxLen; omega)) (by omega) (by (dsimp only [List.set, List.append, List.cons_append, List.nil_append, roB_cells, roI_cells, roO_cells, roW_cells, roU_cells, roH_cells, roPt_cells, splice, ofConst, AV.cells, List.map, List.map_cons, List.map_nil, List.take, List.drop, Nat.zero_add, Nat.add_zero, Nat.reduceAdd, Nat.reduceMul, Nat.zero_mul, Value.cells, List.toList_toArray, zerosA, List.replicate, List.flatten, List.append_nil]; done)) (fun _ => by (dsimp only [List.set]; done)) ?_)
              intro V22 hV22
              refine AO.op (O.assign rfl rfl) rfl rfl rfl ?_
              refine AO.nil ?_
              refine AQ.blockN ?_
              refine AQ.thenN ?_
              refine AW.seq ?_
              refine AW.region ?_
              refine AO.op (O.move rfl rfl) rfl rfl rfl ?_
              refine AO.op (O.gtr rfl rfl rfl (by exact bFalse (by omega))) rfl rfl rfl ?_
              refine AO.nil ?_
              refine AQ.thenN ?_
              refine AW.condF rfl ?_
              refine AW.skip ?_
              refine AQ.blockN ?_
              rw [show pksA back ++ _ = _ from hgb, ← hgbl]
              refine AQ.loopKN _ _ _ (by omega) (⟨_, now2, now2, num, num + 1, done, c2, w2, a2, s1, net2, _, ps2, _, _, ha3', hA2, hcc2, hvs, hBs2, hks2, hnetS, hbk2, hS3, ⟨by omega, by omega⟩, hhas2, by omega, by omega, by omega, ⟨by omega, by omega⟩, by omega, hVn, ‹_›, rfl, rfl, rfl⟩) (by repeat (first | exact envNil | refine envCons rfl ?_)) (by repeat (first | exact envNil | refine envCons rfl ?_)) (by repeat (first | exact subPnil | refine subPcons 4 rfl ?_))
         ·skip
          exact absurd h262 (by simp)
        skip
    ·skip
     refine AW.seq ?_
     refine AW.seq ?_
     refine AW.region ?_
     refine AO.op (O.move rfl rfl) rfl rfl rfl ?_
     refine AO.op (O.lenRow rfl rfl (by repeat (first | exact List.Mem.head _ | refine List.Mem.tail _ ?_))) rfl rfl rfl ?_
     refine AO.op (O.eql rfl rfl rfl (by rfl)) rfl rfl rfl ?_
     refine AO.nil ?_
     refine AQ.thenN ?_
     refine AW.split rfl (fun hem => ?_) (fun hem => ?_) <;> (try simp only [decide_eq_true_eq, decide_eq_false_iff_not, beq_iff_eq, beq_eq_false_iff_ne, bne_iff_ne, bne_eq_false_iff_eq, Bool.not_eq_true', Bool.not_eq_false', Bool.not_eq_true, Bool.not_eq_false, ne_eq, Int.not_lt, Int.not_le, Bool.and_eq_true, Bool.or_eq_true, Bool.or_eq_false_iff, Bool.and_eq_false_imp, strOf_toList, Decidable.not_not] at hem)
     ·skip
      refine AW.exit ?_
      refine AQ.thenX ?_
      refine AQ.blockY rfl ?_
      refine AQ.thenX ?_
      refine AQ.blockX rfl ?_
      refine AQ.loopKN _ _ _ (by omega) (⟨_, now2, last, num, k, done, c2, w2, a2, b, net2, back, ps, Vn, V', ha2', hA2, hcc2, hvb, hB, hkpS, hnetS, hbk, hS, hnk2, hhas2, by omega, by omega, by omega, ⟨hla.1, by omega⟩, by omega, hVn, hV', rfl, rfl, rfl⟩) (by repeat (first | exact envNil | refine envCons rfl ?_)) (by repeat (first | exact envNil | refine envCons rfl ?_)) (by repeat (first | exact subPnil | refine subPcons 0 rfl ?_))
     ·skip
      have hnl0 : 0 < back.length := by omega
      have hz3 := nxt_in l (adv l (adv l kk)) (n := (back.length : Int)) (by omega)
      have ha3 := adv_ge l (adv l (adv l kk))
      have ha3' : adv l (adv l (adv l kk)) ≤ l.length := adv_le' ha2'
      obtain ⟨j, hj⟩ : ∃ j : Nat, nxt l (adv l (adv l kk)) (back.length : Int) = (j : Int) := ⟨(nxt l (adv l (adv l kk)) (back.length : Int)).toNat, by omega⟩
      rw [hj] at hz3
      have hjl : j < back.length := by omega
      obtain ⟨qq, hqq⟩ : ∃ qq, qq = pk back j := ⟨_, rfl⟩
      have hqb := hbk qq (by rw [hqq]; exact getD_mem Pk.none hjl)
      have hgp : ((pksA back).drop (0 + (nxt l (adv l (adv l kk)) (back.length : Int)).toNat * 7)).take 7 = cP qq := by
       rw [getP hjl (by omega), hqq]
      have hack : (recvR a2 1 qq.m now2).2.2.2 = 0 ∧ (((recvR a2 1 qq.m now2).2.1 = 3 ∧ w2 = true ∧ qq.m = R num ∧ num < k ∧ CliU (recvR a2 1 qq.m now2).1 F (num + 1) false) ∨ ((recvR a2 1 qq.m now2).2.1 = 5 ∧ CliU (recvR a2 1 qq.m now2).1 F num w2)) := by
       rcases hqb with h | ⟨i, h1, h2, h3⟩
       ·rw [h]
        have := up_none hA2 hto
        exact ⟨this.1, .inr this.2⟩
       ·rw [h3]
        have := up_ack (m := R i) hA2 (hFi _) hto (hRv i ⟨h1, by omega⟩) (by rw [hR])
        refine ⟨this.1, this.2.imp (fun h => ?_) id⟩
        have h4 : i = (num : Int) := by have := h.2.2.1; rw [hR] at this; exact this
        exact ⟨h.1, h.2.1, by rw [h4], by omega, h.2.2.2⟩
      refine AW.g ?_
      refine G.openRow 1 rfl (by omega) (fun b' cap hc1 hc2 hxs hVe => ?_)
      refine AW.u ?_
      subst hVe
      refine AW.g ?_
      dsimp only [List.set]
      refine AW.u ?_
      refine AW.skip ?_
      refine AQ.thenN ?_
      refine AW.seq ?_
      refine AW.region ?_
      refine AO.op (O.move rfl rfl) rfl rfl rfl ?_
      refine AO.op (O.move rfl rfl) rfl rfl rfl ?_
      refine AO.op (O.move rfl rfl) rfl rfl rfl ?_
      refine AO.op (O.lenV rfl rfl) rfl rfl rfl ?_
      (refine AO.callM1 (i := 4) rfl rfl Tryz.func13 rfl rfl rfl rfl rfl rfl (next_fn _ _ _ _ hl (by repeat (assumption)) (by omega) (by omega)) (by (dsimp only [List.set, List.append, List.cons_append, List.nil_append, roB_cells, roI_cells, roO_cells, roW_cells, roU_cells, roH_cells, roPt_cells, splice, ofConst, AV.cells, List.map, List.map_cons, List.map_nil, List.take, List.drop, Nat.zero_add, Nat.add_zero, Nat.reduceAdd, Nat.reduceMul, Nat.zero_mul, Value.cells, List.toList_toArray, zerosA, List.replicate, List.flatten, List.append_nil]; done)) ?_)
      refine AO.op (O.idxV rfl rfl rfl ⟨(by omega), (by omega)⟩) rfl rfl rfl ?_
      refine AO.op (O.loadK rfl rfl (by repeat (first | exact List.Mem.head _ | refine List.Mem.tail _ ?_)) (by exact hgp) (by rfl)) rfl rfl rfl ?_
      refine AO.opB (O.alloc rfl (by (dsimp only [List.set, List.append, List.cons_append, List.nil_append, roB_cells, roI_cells, roO_cells, roW_cells, roU_cells, roH_cells, roPt_cells, splice, ofConst, AV.cells, List.map, List.map_cons, List.map_nil, List.take, List.drop, Nat.zero_add, Nat.add_zero, Nat.reduceAdd, Nat.reduceMul, Nat.zero_mul, Value.cells, List.toList_toArray, zerosA, List.replicate, List.flatten, List.append_nil]; done)) (by rfl)) rfl rfl rfl ?_
      intro B23
      (refine AO.store (i := 0) rfl rfl rfl rfl rfl rfl (by rfl) (by rfl) (by rfl) (by (dsimp only [List.set, List.append, List.cons_append, List.nil_append, roB_cells, roI_cells, roO_cells, roW_cells, roU_cells, roH_cells, roPt_cells, splice, ofConst, AV.cells, List.map, List.map_cons, List.map_nil, List.take, List.drop, Nat.zero_add, Nat.add_zero, Nat.reduceAdd, Nat.reduceMul, Nat.zero_mul, Value.cells, List.toList_toArray, zerosA, List.replicate, List.flatten, List.append_nil]; done)) (by (dsimp only [List.set, List.append, List.cons_append, List.nil_append, roB_cells, roI_cells, roO_cells, roW_cells, roU_cells, roH_cells, roPt_cells, splice, ofConst, AV.cells, List.map, List.map_cons, List.map_nil, List.take, List.drop, Nat.zero_add, Nat.add_zero, Nat.reduceAdd, Nat.reduceMul, Nat.zero_mul, Value.cells, List.toList_toArray, zerosA, List.replicate, List.flatten, List.append_nil]; done)) ?_)
      refine AO.nil ?_
      refine AQ.thenN ?_
      refine AW.seq ?_
      refine AW.region ?_
      refine AO.op (O.loadK rfl rfl (by repeat (first | exact List.Mem.head _ | refine List.Mem.tail _ ?_)) (by rfl) (by rfl)) rfl rfl rfl ?_
      refine AO.op (O.fieldAddr rfl rfl) rfl rfl rfl ?_
      refine AO.op (O.loadK rfl rfl (by repeat (exact List.Mem.head _)) (by rfl) (by rfl)) rfl rfl rfl ?_
      refine AO.op (O.move rfl rfl) rfl rfl rfl ?_
      refine AO.op (O.call rfl Tryz.func21 rfl rfl rfl (recv_fn a2 _ qq.m _ hbdA2)) rfl rfl rfl ?_
      refine AO.op (O.move rfl rfl) rfl rfl rfl ?_
      refine AO.op (O.extract rfl rfl rfl) rfl rfl rfl ?_
      refine AO.op (O.extract rfl rfl rfl) rfl rfl rfl ?_
      refine AO.op (O.extract rfl rfl rfl) rfl rfl rfl ?_
      refine AO.op (O.extract rfl rfl rfl) rfl rfl rfl ?_
      refine AO.opB (O.alloc rfl (by (dsimp only [List.set, List.append, List.cons_append, List.nil_append, roB_cells, roI_cells, roO_cells, roW_cells, roU_cells, roH_cells, roPt_cells, splice, ofConst, AV.cells, List.map, List.map_cons, List.map_nil, List.take, List.drop, Nat.zero_add, Nat.add_zero, Nat.reduceAdd, Nat.reduceMul, Nat.zero_mul, Value.cells, List.toList_toArray, zerosA, List.replicate, List.flatten, List.append_nil]; done)) (by rfl)) rfl rfl rfl ?_
      intro B24
      refine AO.opB (O.alloc rfl (by (dsimp only [List.set, List.append, List.cons_append, List.nil_append, roB_cells, roI_cells, roO_cells, roW_cells, roU_cells, roH_cells, roPt_cells, splice, ofConst, AV.cells, List.map, List.map_cons, List.map_nil, List.take, List.drop, Nat.zero_add, Nat.add_zero, Nat.reduceAdd, Nat.reduceMul, Nat.zero_mul, Value.cells, List.toList_toArray, zerosA, List.replicate, List.flatten, List.append_nil]; done)) (by rfl)) rfl rfl rfl ?_
      intro B25
      (refine AO.store (i := 1) rfl rfl rfl rfl rfl rfl (by rfl) (by rfl) (by rfl) (by (dsimp only [List.set, List.append, List.cons_append, List.nil_append, roB_cells, roI_cells, roO_cells, roW_cells, roU_cells, roH_cells, roPt_cells, splice, ofConst, AV.cells, List.map, List.map_cons, List.map_nil, List.take, List.drop, Nat.zero_add, Nat.add_zero, Nat.reduceAdd, Nat.reduceMul, Nat.zero_mul, Value.cells, List.toList_toArray, zerosA, List.replicate, List.flatten, List.append_nil]; done)) (by (dsimp only [List.set, List.append, List.cons_append, List.nil_append, roB_cells, roI_cells, roO_cells, roW_cells, roU_cells, roH_cells, roPt_cells, splice, ofConst, AV.cells, List.map, List.map_cons, List.map_nil, List.take, List.drop, Nat.zero_add, Nat.add_zero, Nat.reduceAdd, Nat.reduceMul, Nat.zero_mul, Value.cells, List.toList_toArray, zerosA, List.replicate, List.flatten, List.append_nil]; done)) ?_)
      refine AO.op (O.assign rfl rfl) rfl rfl rfl ?_
      (refine AO.store (i := 0) rfl rfl rfl rfl rfl rfl (by rfl) (by rfl) (by rfl) (by (dsimp only [List.set, List.append, List.cons_append, List.nil_append, roB_cells, roI_cells, roO_cells, roW_cells, roU_cells, roH_cells, roPt_cells, splice, ofConst, AV.cells, List.map, List.map_cons, List.map_nil, List.take, List.drop, Nat.zero_add, Nat.add_zero, Nat.reduceAdd, Nat.reduceMul, Nat.zero_mul, Value.cells, List.toList_toArray, zerosA, List.replicate, List.flatten, List.append_nil]; done)) (by (dsimp only [List.set, List.append, List.cons_append, List.nil_append, roB_cells, roI_cells, roO_cells, roW_cells, roU_cells, roH_cells, roPt_cells, splice, ofConst, AV.cells, List.map, List.map_cons, List.map_nil, List.take, List.drop, Nat.zero_add, Nat.add_zero, Nat.reduceAdd, Nat.reduceMul, Nat.zero_mul, Value.cells, List.toList_toArray, zerosA, List.replicate, List.flatten, List.append_nil]; done)) ?_)
      refine AO.op (O.assign rfl rfl) rfl rfl rfl ?_
      refine AO.nil ?_
      refine AQ.thenN ?_
      refine AW.seq ?_
      refine AW.seq ?_
      refine AW.region ?_
      refine AO.op (O.move rfl rfl) rfl rfl rfl ?_
      refine AO.op (O.neq rfl rfl rfl (by exact bne_eq_false_iff_eq.2 (by omega))) rfl rfl rfl ?_
      refine AO.nil ?_
      refine AQ.thenN ?_
      refine AW.g ?_
      refine G.closeRow (b := b') 4 rfl hxs rfl hc1 hc2 ?_
      refine AW.u ?_
      refine AW.g ?_
      dsimp only [List.set]
      refine AW.u ?_
      generalize recvR a2 1 qq.m now2 = r at *
      obtain ⟨r1, r2, r3, r4⟩ := r
      dsimp only at hack ⊢
      obtain ⟨rfl, hr2⟩ := hack
      refine AW.split rfl (fun h151 => ?_) (fun h151 => ?_) <;> (try simp only [decide_eq_true_eq, decide_eq_false_iff_not, beq_iff_eq, beq_eq_false_iff_ne, bne_iff_ne, bne_eq_false_iff_eq, Bool.not_eq_true', Bool.not_eq_false', Bool.not_eq_true, Bool.not_eq_false, ne_eq, Int.not_lt, Int.not_le, Bool.and_eq_true, Bool.or_eq_true, Bool.or_eq_false_iff, Bool.and_eq_false_imp, strOf_toList, Decidable.not_not] at h151)
      ·skip
       exact absurd h151 (by simp)
      ·skip
       refine AW.skip ?_
       refine AQ.thenN ?_
       refine AW.seq ?_
       refine AW.region ?_
       (refine AO.op (O.loadK rfl rfl (by repeat (first | exact List.Mem.head _ | refine List.Mem.tail _ ?_)) (by (dsimp only [List.set, List.append, List.cons_append, List.nil_append, roB_cells, roI_cells, roO_cells, roW_cells, roU_cells, roH_cells, roPt_cells, splice, ofConst, AV.cells, List.map, List.map_cons, List.map_nil, List.take, List.drop, Nat.zero_add, Nat.add_zero, Nat.reduceAdd, Nat.reduceMul, Nat.zero_mul, Value.cells, List.toList_toArray, zerosA, List.replicate, List.flatten, List.append_nil]; done)) (by rfl)) rfl rfl rfl ?_)
       (refine AO.store (i := 6) rfl rfl rfl rfl rfl rfl (by rfl) (by rfl) (by rfl) (by (dsimp only [List.set, List.append, List.cons_append, List.nil_append, roB_cells, roI_cells, roO_cells, roW_cells, roU_cells, roH_cells, roPt_cells, splice, ofConst, AV.cells, List.map, List.map_cons, List.map_nil, List.take, List.drop, Nat.zero_add, Nat.add_zero, Nat.reduceAdd, Nat.reduceMul, Nat.zero_mul, Value.cells, List.toList_toArray, zerosA, List.replicate, List.flatten, List.append_nil]; done)) (by (dsimp only [List.set, List.append, List.cons_append, List.nil_append, roB_cells, roI_cells, roO_cells, roW_cells, roU_cells, roH_cells, roPt_cells, splice, ofConst, AV.cells, List.map, List.map_cons, List.map_nil, List.take, List.drop, Nat.zero_add, Nat.add_zero, Nat.reduceAdd, Nat.reduceMul, Nat.zero_mul, Value.cells, List.toList_toArray, zerosA, List.replicate, List.flatten, List.append_nil]; done)) ?_)
       refine AO.nil ?_
       refine AQ.thenN ?_
       refine AW.seq ?_
       refine AW.region ?_
       refine AO.op (O.move rfl rfl) rfl rfl rfl ?_
       refine AO.op (O.eql rfl rfl rfl (by rfl)) rfl rfl rfl ?_
       refine AO.nil ?_
       refine AQ.thenN ?_
       rcases hr2 with ⟨rfl, hw2, hqR, hlt, hrA⟩ | ⟨rfl, hrA⟩
       ·skip
        refine AW.split rfl (fun h154 => ?_) (fun h154 => ?_) <;> (try simp only [decide_eq_true_eq, decide_eq_false_iff_not, beq_iff_eq, beq_eq_false_iff_ne, bne_iff_ne, bne_eq_false_iff_eq, Bool.not_eq_true', Bool.not_eq_false', Bool.not_eq_true, Bool.not_eq_false, ne_eq, Int.not_lt, Int.not_le, Bool.and_eq_true, Bool.or_eq_true, Bool.or_eq_false_iff, Bool.and_eq_false_imp, strOf_toList, Decidable.not_not] at h154)
        ·skip
         have hc3 : c2 = (num : Int) + 1 := by
          rcases hcc2 with ⟨-, h⟩ | ⟨h, -⟩
          ·exact h
          ·rw [hw2] at h; cases h
         obtain ⟨mk, hmk⟩ : ∃ mk, mk = moreB body (szN sz) num := ⟨_, rfl⟩
         obtain ⟨vv, hvv⟩ : ∃ vv, vv = fromU (valB sz (num : Int) mk) := ⟨_, rfl⟩
         have hqo : qq.m.opts = [⟨27, vv⟩] := by rw [hqR, hR, hvv, hmk]; rfl
         have hvl : vv.length ≤ 4 := by rw [hvv]; exact fromU_len _
         have hget : Sp Tryz.prog 17 [aggM qq.m, .val (.int .i64 27)] [] (Is (.tup [roB vv, .val (.bool true)])) := by
          have := oget_fn qq.m 27 (by rw [hqo]; simp) (by rw [hqo]; intro o ho; obtain rfl := List.mem_singleton.1 ho; show vv.length ≤ _; omega)
          rw [hqo] at this
          exact this
         have hparse := bparse_fn num mk sz ⟨by omega, by omega⟩ hs
         rw [← hvv] at hparse
         subst hw2
         refine AW.seq ?_
         refine AW.region ?_
         refine AO.op (O.fieldAddr rfl rfl) rfl rfl rfl ?_
         (refine AO.op (O.loadK rfl rfl (by repeat (first | exact List.Mem.head _ | refine List.Mem.tail _ ?_)) (by (dsimp only [List.set, List.append, List.cons_append, List.nil_append, roB_cells, roI_cells, roO_cells, roW_cells, roU_cells, roH_cells, roPt_cells, splice, ofConst, AV.cells, List.map, List.map_cons, List.map_nil, List.take, List.drop, Nat.zero_add, Nat.add_zero, Nat.reduceAdd, Nat.reduceMul, Nat.zero_mul, Value.cells, List.toList_toArray, zerosA, List.replicate, List.flatten, List.append_nil]; done)) (by rfl)) rfl rfl rfl ?_)
         refine AO.op (O.call rfl Tryz.func17 rfl rfl rfl (hget)) rfl rfl rfl ?_
         refine AO.op (O.move rfl rfl) rfl rfl rfl ?_
         refine AO.op (O.extract rfl rfl rfl) rfl rfl rfl ?_
         refine AO.op (O.extract rfl rfl rfl) rfl rfl rfl ?_
         refine AO.op (O.assign rfl rfl) rfl rfl rfl ?_
         refine AO.op (O.assign rfl rfl) rfl rfl rfl ?_
         refine AO.nil ?_
         refine AQ.thenN ?_
         refine AW.seq ?_
         refine AW.region ?_
         refine AO.op (O.move rfl rfl) rfl rfl rfl ?_
         refine AO.op (O.call rfl Tryz.func27 rfl rfl rfl (hparse)) rfl rfl rfl ?_
         refine AO.op (O.move rfl rfl) rfl rfl rfl ?_
         refine AO.op (O.extract rfl rfl rfl) rfl rfl rfl ?_
         refine AO.op (O.extract rfl rfl rfl) rfl rfl rfl ?_
         refine AO.opB (O.alloc rfl (by (dsimp only [List.set, List.append, List.cons_append, List.nil_append, roB_cells, roI_cells, roO_cells, roW_cells, roU_cells, roH_cells, roPt_cells, splice, ofConst, AV.cells, List.map, List.map_cons, List.map_nil, List.take, List.drop, Nat.zero_add, Nat.add_zero, Nat.reduceAdd, Nat.reduceMul, Nat.zero_mul, Value.cells, List.toList_toArray, zerosA, List.replicate, List.flatten, List.append_nil]; done)) (by rfl)) rfl rfl rfl ?_
         intro B26
         (refine AO.store (i := 0) rfl rfl rfl rfl rfl rfl (by rfl) (by rfl) (by rfl) (by (dsimp only [List.set, List.append, List.cons_append, List.nil_append, roB_cells, roI_cells, roO_cells, roW_cells, roU_cells, roH_cells, roPt_cells, splice, ofConst, AV.cells, List.map, List.map_cons, List.map_nil, List.take, List.drop, Nat.zero_add, Nat.add_zero, Nat.reduceAdd, Nat.reduceMul, Nat.zero_mul, Value.cells, List.toList_toArray, zerosA, List.replicate, List.flatten, List.append_nil]; done)) (by (dsimp only [List.set, List.append, List.cons_append, List.nil_append, roB_cells, roI_cells, roO_cells, roW_cells, roU_cells, roH_cells, roPt_cells, splice, ofConst, AV.cells, List.map, List.map_cons, List.map_nil, List.take, List.drop, Nat.zero_add, Nat.add_zero, Nat.reduceAdd, Nat.reduceMul, Nat.zero_mul, Value.cells, List.toList_toArray, zerosA, List.replicate, List.flatten, List.append_nil]; done)) ?_)
         refine AO.op (O.assign rfl rfl) rfl rfl rfl ?_
         refine AO.nil ?_
         refine AQ.thenN ?_
         refine AW.seq ?_
         refine AW.seq ?_
         refine AW.region ?_
         refine AO.op (O.move rfl rfl) rfl rfl rfl ?_
         refine AO.op (O.neq rfl rfl rfl (by exact bne_eq_false_iff_eq.2 (by omega))) rfl rfl rfl ?_
         refine AO.op (O.move rfl rfl) rfl rfl rfl ?_
         refine AO.op (O.fieldAddr rfl rfl) rfl rfl rfl ?_
         refine AO.op (O.load rfl rfl (by repeat (exact List.Mem.head _)) (by rfl)) rfl rfl rfl ?_
         refine AO.op (O.move rfl rfl) rfl rfl rfl ?_
         refine AO.op (O.neq rfl rfl rfl (by exact bne_eq_false_iff_eq.2 (by omega))) rfl rfl rfl ?_
         refine AO.op (O.pickF rfl rfl rfl) rfl rfl rfl ?_
         refine AO.op (O.move rfl rfl) rfl rfl rfl ?_
         refine AO.op (O.move rfl rfl) rfl rfl rfl ?_
         refine AO.op (O.not rfl rfl (by rfl)) rfl rfl rfl ?_
         refine AO.op (O.pickF rfl rfl rfl) rfl rfl rfl ?_
         refine AO.nil ?_
         refine AQ.thenN ?_
         refine AW.split rfl (fun h177 => ?_) (fun h177 => ?_) <;> (try simp only [decide_eq_true_eq, decide_eq_false_iff_not, beq_iff_eq, beq_eq_false_iff_ne, bne_iff_ne, bne_eq_false_iff_eq, Bool.not_eq_true', Bool.not_eq_false', Bool.not_eq_true, Bool.not_eq_false, ne_eq, Int.not_lt, Int.not_le, Bool.and_eq_true, Bool.or_eq_true, Bool.or_eq_false_iff, Bool.and_eq_false_imp, strOf_toList, Decidable.not_not] at h177)
         ·skip
          exact absurd h177 (by simp)
         ·skip
          refine AW.skip ?_
          refine AQ.thenN ?_
          refine AW.region ?_
          refine AO.op (O.move rfl rfl) rfl rfl rfl ?_
          refine AO.op (O.add rfl rfl rfl (by exact wI64 (by omega))) rfl rfl rfl ?_
          refine AO.op (O.assign rfl rfl) rfl rfl rfl ?_
          refine AO.op (O.assign rfl rfl) rfl rfl rfl ?_
          refine AO.nil ?_
          refine AQ.blockN ?_
          refine AQ.thenN ?_
          refine AW.seq ?_
          refine AW.region ?_
          refine AO.op (O.move rfl rfl) rfl rfl rfl ?_
          refine AO.op (O.gtr rfl rfl rfl (by exact bFalse (by omega))) rfl rfl rfl ?_
          refine AO.nil ?_
          refine AQ.thenN ?_
          refine AW.condF rfl ?_
          refine AW.skip ?_
          refine AQ.blockN ?_
          refine AQ.loopKN _ _ _ (by omega) (⟨_, now2, last, num + 1, k, done, c2, false, r1, b, net2, back, ps, Vn, _, ha3', hrA, .inr ⟨rfl, by omega⟩, hvb, hB, hkpS, hnetS, hbk, hS, ⟨by omega, by omega⟩, hhas2, by omega, by omega, by omega, ⟨hla.1, by omega⟩, by omega, hVn, hV', rfl, rfl, rfl⟩) (by repeat (first | exact envNil | refine envCons rfl ?_)) (by repeat (first | exact envNil | refine envCons rfl ?_)) (by repeat (first | exact subPnil | refine subPcons 4 rfl ?_))
        ·skip
         exact absurd h154 (by simp)
       ·skip
        refine AW.split rfl (fun h154 => ?_) (fun h154 => ?_) <;> (try simp only [decide_eq_true_eq, decide_eq_false_iff_not, beq_iff_eq, beq_eq_false_iff_ne, bne_iff_ne, bne_eq_false_iff_eq, Bool.not_eq_true', Bool.not_eq_false', Bool.not_eq_true, Bool.not_eq_false, ne_eq, Int.not_lt, Int.not_le, Bool.and_eq_true, Bool.or_eq_true, Bool.or_eq_false_iff, Bool.and_eq_false_imp, strOf_toList, Decidable.not_not] at h154)
        ·skip
         exact absurd h154 (by simp)
        ·skip
         refine AW.skip ?_
         refine AQ.blockN ?_
         refine AQ.thenN ?_
         refine AW.seq ?_
         refine AW.region ?_
         refine AO.op (O.move rfl rfl) rfl rfl rfl ?_
         refine AO.op (O.gtr rfl rfl rfl (by exact bFalse (by omega))) rfl rfl rfl ?_
         refine AO.nil ?_
         refine AQ.thenN ?_
         refine AW.condF rfl ?_
         refine AW.skip ?_
         refine AQ.blockN ?_
         refine AQ.loopKN _ _ _ (by omega) (⟨_, now2, last, num, k, done, c2, w2, r1, b, net2, back, ps, Vn, _, ha3', hrA, hcc2, hvb, hB, hkpS, hnetS, hbk, hS, hnk2, hhas2, by omega, by omega, by omega, ⟨hla.1, by omega⟩, by omega, hVn, ‹_›, rfl, rfl, rfl⟩) (by repeat (first | exact envNil | refine envCons rfl ?_)) (by repeat (first | exact envNil | refine envCons rfl ?_)) (by repeat (first | exact subPnil | refine subPcons 3 rfl ?_))
       skip
  ·skip
   refine AW.exit ?_
   refine AQ.thenX ?_
   refine AQ.loopX ?_
   refine AQ.blockX rfl ?_
   refine AQ.thenN ?_
   refine AW.seq ?_
   refine AW.region ?_
   refine AO.callK hK notFoot_nil rfl rfl Tryz.func8 rfl rfl rfl rfl rfl (awakeT_fn) ?_
   refine AO.op (O.assign rfl rfl) rfl rfl rfl ?_
   refine AO.nil ?_
   refine AQ.thenN ?_
   refine AW.ret ?_
   refine AQ.ret1 rfl rfl ⟨_, List.nil_sublist _, .nil⟩ (⟨rfl, rfl⟩)
end Go.Proofs.YtoonnnifelnaiaaGreatDoor.By

namespace Go.Proofs.YtoonnnifelnaiaaGreatDoor.A
open Go.ChangeShapes Go.WideShapes Go.ChangeAt Go.RowKit Go.Deep L
set_option linter.unusedVariables false
set_option maxRecDepth 20000
set_option linter.unusedSimpArgs false
theorem law_contractK {f : FuncId} {fn : Func} {s : ChangeSpec} {H : Type} {K : World → Prop} (enc : TypeId × Value → H) {ts : List TypeId} {φs : List (AV → Prop)} (hp : fn.params.toList = ts) (hr : ReadsL Tryz.prog ts φs)
  (h : AllOf φs fun xs => SpK K Tryz.prog f xs [] (Is (.val (.bool true)))) {W : World} {base : Nat} {args : Array Value} {ds gs : List (DataW H)} {before : List MemPlace} (hK : K W)
  (hval : ∀ (j : Nat) t v, fn.params[j]? = some t → args[j]? = some v → Value.okWide Tryz.prog W .any base t v)
  (hW : DataW.Whole enc Tryz.prog fn.params.toList s.vars false W args.toList ds gs before)
  (post : ∀ W', Ext W W' → s.post enc Tryz.prog fn false true false false W args (.bool true) W') :
  Calls Tryz.prog f args W fun e W' => ∃ v, e = .returned v ∧ s.post enc Tryz.prog fn false true false false W args v W' := by
 obtain ⟨p, q, hA, hV, rfl, hfz, hnd⟩ := hW
 rw [hp] at hA
 obtain ⟨xs, hS, hR⟩ := readAll (b0 := base) hr h (fun j t v h1 h2 => hval j t v (by rw [← Array.getElem?_toList, hp]; exact h1) (by rw [← Array.getElem?_toList]; exact h2)) hA
 have hc := hS W (Old W) args.toList hK (fun b hb => hb) (fun e he => by cases he) .nil hR
 rw [Array.toArray_toList] at hc
 refine hc.mono ?_
 rintro e W' ⟨u, r, H', R', rfl, ⟨rfl, rfl⟩, hs, hv⟩
 obtain rfl := hv.val_inv
 exact ⟨_, rfl, post W' (hs.mods.mono fun b _ ⟨e, he, _⟩ => by cases he)⟩
/-- A listed variable that is an array of strings. -/
theorem reads_strs {P : Program} {w : World} {l : List (String × DataW Unit)} {n : String} {ss : List (List UInt8)} {g k e : Nat} {ty : TypeId} (h : laidMet P l w) (hk0 : 0 < k) (hm : (n, DataW.agg (ss.map fun s => .lit (.string s))) ∈ l)
  (hg : P.globalNamed n = some g) (ht : (P.globals[g]?).map (·.type) = some ty) (hu : P.underlying ty = some (.array k e)) (hk : ss.length = k) (he : P.underlying e = some .string) (hc : P.cellsOf e = 1) (hct : P.cellsOf ty = k) :
  GK g (ss.map fun s => .string ⟨s.toArray⟩) w := by
 obtain ⟨ps, hv, hnd, hp⟩ := h
 have key : ∀ (l : List (String × DataW Unit)) (ps : List MemPlace), DataW.LaidVars P w l ps → ∀ n d, (n, d) ∈ l →
   ∃ g t cs fuel p, P.globalNamed n = some g ∧ (P.globals[g]?).map (·.type) = some t ∧ w.var? P n = some cs ∧ DataW.trod (fun _ => ()) P w 0 (fun _ => true) false fuel t cs.toList = some (d, p) ∧ ∀ x ∈ MemPlace.row ⟨g, 0, none⟩ cs.size, x ∈ ps := by
  intro l
  induction l with
  | nil => intro _ _ _ _ hm; cases hm
  | cons y r ih =>
   obtain ⟨n', d'⟩ := y
   intro ps h n d hm
   obtain ⟨g, t, cs, fuel, p, q, h1, h2, h3, h4, h5, h6⟩ := h
   rcases List.mem_cons.1 hm with e | e
   ·cases e
    exact ⟨g, t, cs, fuel, p, h1, h2, h3, h4, fun x hx => by rw [h6]; simp [hx]⟩
   ·obtain ⟨g', t', cs', fuel', p', a1, a2, a3, a4, a5⟩ := ih q h5 n d e
    exact ⟨g', t', cs', fuel', p', a1, a2, a3, a4, fun x hx => by rw [h6]; simp [a5 x hx]⟩
 obtain ⟨g', t', cs, fuel, p, a1, a2, a3, a4, a5⟩ := key _ _ hv _ _ hm
 obtain rfl : g = g' := Option.some.inj (hg.symm.trans a1)
 obtain rfl : ty = t' := Option.some.inj (ht.symm.trans a2)
 obtain ⟨xs, m, rfl, hx, hl, hxl, hall⟩ := DataW.trod_array hu a4
 have hxs : xs.map (·.1) = ss.map fun s => (DataW.lit (.string s) : DataW Unit) := by
  have := congrArg Prod.fst hx
  simpa using this.symm
 have hcs : cs.toList = ss.map fun s => Value.string ⟨s.toArray⟩ := by
  apply List.ext_getElem?
  intro i
  by_cases hi : i < k
  ·have h1 := hall i hi
   obtain ⟨b, hb⟩ : ∃ b, xs[i]? = some b := ⟨xs[i]'(by omega), List.getElem?_eq_getElem (by omega)⟩
   rw [hb, hc] at h1
   obtain ⟨s, hcs, rfl, _⟩ := DataW.trod_string he h1
   have h2 : cs.toList[i]? = some (.string s) := by
    have := congrArg (·[0]?) hcs
    simpa [List.getElem?_take, List.getElem?_drop] using this
   have h3 : (xs.map (·.1))[i]? = some (DataW.lit (.string s.data.toList) : DataW Unit) := by simp [hb]
   rw [hxs] at h3
   simp only [List.getElem?_map, Option.map_eq_some_iff, DataW.lit.injEq, Lit.string.injEq] at h3
   obtain ⟨z', hz', rfl⟩ := h3
   rw [h2, List.getElem?_map, hz']
   simp
  ·rw [List.getElem?_eq_none (by rw [hl, hct]; omega), List.getElem?_eq_none (by rw [List.length_map]; omega)]
 have hsz : cs.size = k := by rw [← hct, ← hl]; simp
 simp only [World.var?, a1, Option.bind_some] at a3
 have hcell : ∃ c T fr, w.heap[g]? = some (.cells c T fr) ∧ c = cs := by
  split at a3
  ·rename_i c T fr hh
   exact ⟨c, T, fr, hh, by simpa using a3⟩
  ·cases a3
 obtain ⟨c, T, fr, hh, rfl⟩ := hcell
 obtain ⟨⟨c', T', hh'⟩, _⟩ := hp g 0 (a5 _ (by unfold MemPlace.row; rw [List.mem_map]; exact ⟨0, List.mem_range.2 (by omega), rfl⟩))
 rw [hh] at hh'
 cases hh'
 exact ⟨_, _, hh, hcs⟩
end Go.Proofs.YtoonnnifelnaiaaGreatDoor.A
