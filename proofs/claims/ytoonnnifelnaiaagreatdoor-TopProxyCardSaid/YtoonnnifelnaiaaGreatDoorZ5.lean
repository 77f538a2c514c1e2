/-
  TopProxy, the statement: for every input the law returns true, and its arguments read as before. No condition.
-/
import Derived.ChangeSame
import Derived.JoinedOf
import Derived.JoinedAt
import Derived.RowKit3
import Derived.ReadAgain
import Derived.Deep.Slices
import Derived.ChangeSlices
import Derived.Test.YtoonnnifelnaiaaGreatDoorRows
import Derived.Lay
import Derived.LaidOnce
import Derived.MakeChecks
import Derived.Test.YtoonnnifelnaiaaGreatDoorZ4
namespace Go.Proofs.YtoonnnifelnaiaaGreatDoor.By
open Go.RowKit L A Dk
set_option linter.unusedVariables false
set_option maxRecDepth 20000
set_option linter.unusedSimpArgs false
attribute [local irreducible] AW AQ AO
abbrev stA (s : Nat → Int) : List AV := [.val (.int .i64 (s 0)), .val (.int .i64 (s 1)), .val (.int .i64 (s 2))]
/-- The numbers of the origin: when each resource became what it is. -/
def NumP (kk : Nat) (n : Nat) (now : Int) (s : Nat → Int) (L : Nat → List Int) : Prop := ∀ k, k < 3 → 0 ≤ s k ∧ (4 * s k ≤ (kk : Int) ∨ kk = n) ∧ ((L k).length : Int) = s k + 1
theorem setE_fn (co : Int) (p : List UInt8) (v : UInt8) (hp : p.length ≤ 1000) : Sp Tryz.prog 15 [aggM ⟨0, co, 0, [], [], p⟩, .val (.int .i64 4), .ro false 1 [roB [v]]] [] (Is (aggM ⟨0, co, 0, [], [⟨4, [v]⟩], p⟩)) :=
 oset_fn ⟨0, co, 0, [], [], p⟩ 4 [[v]] (by simp) (by show p.length ≤ _; omega) (by simp) (by simp) (fun o ho => by cases ho) (fun w hw => by obtain rfl := List.mem_singleton.1 hw; simp)
theorem setA_fn (co : Int) (p : List UInt8) (v : UInt8) (a : Int) (hp : p.length ≤ 1000) : Sp Tryz.prog 15 [aggM ⟨0, co, 0, [], [⟨4, [v]⟩], p⟩, .val (.int .i64 14), .ro false 1 [roB [u8 a]]] [] (Is (aggM ⟨0, co, 0, [], optC v a, p⟩)) :=
 oset_fn ⟨0, co, 0, [], [⟨4, [v]⟩], p⟩ 14 [[u8 a]] (by simp) (by show p.length ≤ _; omega) (by simp) (by simp) (fun o ho => by obtain rfl := List.mem_singleton.1 ho; simp) (fun w hw => by obtain rfl := List.mem_singleton.1 hw; simp)
theorem adv4 {l : List Int} {k : Nat} (h : k < l.length) : k + 4 ≤ adv l (adv l (adv l (adv l k))) ∨ adv l (adv l (adv l (adv l k))) = l.length := by
 unfold adv
 (repeat' split) <;> omega
theorem NumP.step {kk kk2 n : Nat} {now now2 : Int} {s : Nat → Int} {L : Nat → List Int} (h : NumP kk n now s L) (h1 : kk < n) (h2 : kk ≤ kk2) : NumP kk2 n now2 s L := fun k hk => by
 obtain ⟨a, b, c⟩ := h k hk
 exact ⟨a, by omega, c⟩
theorem NumP.up {kk kk2 n : Nat} {now now2 : Int} {s : Nat → Int} {L : Nat → List Int} (h : NumP kk n now s L) (h1 : kk < n) (h2 : kk + 4 ≤ kk2 ∨ kk2 = n) (k0 : Nat) (z : Int) : NumP kk2 n now2 (updP s k0 (s k0 + 1)) (updP L k0 (L k0 ++ [z])) := fun k hk => by
 obtain ⟨a, b, c⟩ := h k hk
 by_cases e : k = k0
 ·subst e
  rw [updP_eq, updP_eq, List.length_append, List.length_singleton]
  exact ⟨by omega, by omega, by omega⟩
 ·rw [updP_ne _ _ e, updP_ne _ _ e]
  exact ⟨a, by omega, c⟩
theorem lookupT_fn (l : List Cd) (k : UInt8) (now : Int) (q : Nat) (h : COk l) (hp : posC l k = (q : Int)) (hq : q < l.length) (hn : 0 ≤ now ∧ now ≤ 1000000) (hl : Live (cd l q) now) {v : UInt8} {a : Int} (hv : (cd l q).v = v) (ha : (cd l q).age - (now - (cd l q).at_) = a) : Sp Tryz.prog 32 [roCd l, roB (keyC k), .val (.int .i64 now)] [] (Is (resL (rsC v a) true)) := by
 have h2 := lookup1_fn l k now q h hp hq hn
 rw [if_pos hl, hv, ha] at h2
 exact h2
theorem lookupF_fn (l : List Cd) (k : UInt8) (now : Int) (q : Nat) (h : COk l) (hp : posC l k = (q : Int)) (hq : q < l.length) (hn : 0 ≤ now ∧ now ≤ 1000000) (hl : ¬Live (cd l q) now) : Sp Tryz.prog 32 [roCd l, roB (keyC k), .val (.int .i64 now)] [] (Is (resL Msg.none false)) := by
 have h2 := lookup1_fn l k now q h hp hq hn
 rw [if_neg hl] at h2
 exact h2
set_option maxRecDepth 100000 in
set_option maxHeartbeats 8000000 in
theorem topProxy_fn (l : List Int) (hl : l.length ≤ maxLen) : SpK GN Tryz.prog 6 [roI l] [] (Is (.val (.bool true))) := by
 refine SpK.enter Tryz.func6 rfl _ Tryz.ntmps6 rfl (fun w0 R0 hK => ?_)
 refine AW.seq ?_
 refine AW.region ?_
 refine AO.op (O.assign rfl rfl) rfl rfl rfl ?_
 refine AO.nil ?_
 refine AQ.thenN ?_
 refine AW.seq ?_
 refine AW.seq ?_
 refine AW.region ?_
 refine AO.op (O.move rfl rfl) rfl rfl rfl ?_
 refine AO.op (O.call rfl Tryz.func7 rfl rfl rfl (fewT_fn _)) rfl rfl rfl ?_
 refine AO.op (O.not rfl rfl (by rfl)) rfl rfl rfl ?_
 refine AO.nil ?_
 refine AQ.thenN ?_
 refine AW.split rfl (fun hfew => ?_) (fun hfew => ?_) <;> (try simp only [decide_eq_true_eq, decide_eq_false_iff_not, beq_iff_eq, beq_eq_false_iff_ne, bne_iff_ne, bne_eq_false_iff_eq, Bool.not_eq_true', Bool.not_eq_false', Bool.not_eq_true, Bool.not_eq_false, ne_eq, Int.not_lt, Int.not_le, Bool.and_eq_true, Bool.or_eq_true, Bool.or_eq_false_iff, Bool.and_eq_false_imp, strOf_toList, Decidable.not_not] at hfew)
 ·skip
  refine AW.seq ?_
  refine AW.region ?_
  refine AO.callK hK notFoot_nil rfl rfl Tryz.func8 rfl rfl rfl rfl rfl (awakeT_fn) ?_
  refine AO.op (O.assign rfl rfl) rfl rfl rfl ?_
  refine AO.nil ?_
  refine AQ.thenN ?_
  refine AW.ret ?_
  refine AQ.thenR ?_
  refine AQ.ret1 rfl rfl ⟨_, List.nil_sublist _, .nil⟩ (⟨rfl, rfl⟩)
 ·skip
  refine AW.skip ?_
  refine AQ.thenN ?_
  refine AW.seq ?_
  refine AW.region ?_
  refine AO.op (O.move rfl rfl) rfl rfl rfl ?_
  refine AO.opB (O.call rfl Tryz.func9 rfl rfl rfl (new_fn _)) rfl rfl rfl ?_
  intro B1
  refine AO.op (O.assign rfl rfl) rfl rfl rfl ?_
  refine AO.nil ?_
  refine AQ.thenN ?_
  refine AW.seq ?_
  refine AW.region ?_
  refine AO.op (O.assign rfl rfl) rfl rfl rfl ?_
  refine AO.nil ?_
  refine AQ.thenN ?_
  refine AW.seq ?_
  refine AW.region ?_
  refine AO.op (O.assign rfl rfl) rfl rfl rfl ?_
  refine AO.nil ?_
  refine AQ.thenN ?_
  refine AW.seq ?_
  refine AW.region ?_
  refine AO.op (O.build rfl rfl rfl (by rfl)) rfl rfl rfl ?_
  refine AO.opB (O.alloc rfl (by (dsimp only [List.set, List.append, List.cons_append, List.nil_append, roB_cells, roI_cells, roO_cells, stA, splice, ofConst, AV.cells, List.map, List.map_cons, List.map_nil, List.take, List.drop, Nat.zero_add, Nat.add_zero, Nat.reduceAdd, Nat.reduceMul, Nat.zero_mul, Value.cells, List.toList_toArray, zerosA, List.replicate, List.flatten, List.append_nil]; done)) (by rfl)) rfl rfl rfl ?_
  intro B2
  (refine AO.store (i := 0) rfl rfl rfl rfl rfl rfl (by rfl) (by rfl) (by rfl) (by (dsimp only [List.set, List.append, List.cons_append, List.nil_append, roB_cells, roI_cells, roO_cells, stA, splice, ofConst, AV.cells, List.map, List.map_cons, List.map_nil, List.take, List.drop, Nat.zero_add, Nat.add_zero, Nat.reduceAdd, Nat.reduceMul, Nat.zero_mul, Value.cells, List.toList_toArray, zerosA, List.replicate, List.flatten, List.append_nil]; done)) (by (dsimp only [List.set, List.append, List.cons_append, List.nil_append, roB_cells, roI_cells, roO_cells, stA, splice, ofConst, AV.cells, List.map, List.map_cons, List.map_nil, List.take, List.drop, Nat.zero_add, Nat.add_zero, Nat.reduceAdd, Nat.reduceMul, Nat.zero_mul, Value.cells, List.toList_toArray, zerosA, List.replicate, List.flatten, List.append_nil]; done)) ?_)
  refine AO.nil ?_
  refine AQ.thenN ?_
  refine AW.seq ?_
  refine AW.region ?_
  refine AO.opB (O.buildSlice rfl rfl rfl (by rfl) (by rfl) (by rfl) (by rfl)) rfl rfl rfl ?_
  intro B3
  refine AO.opB (O.buildSlice rfl rfl rfl (by rfl) (by rfl) (by rfl) (by rfl)) rfl rfl rfl ?_
  intro B4
  refine AO.opB (O.buildSlice rfl rfl rfl (by rfl) (by rfl) (by rfl) (by rfl)) rfl rfl rfl ?_
  intro B5
  refine AO.op (O.build rfl rfl rfl (by rfl)) rfl rfl rfl ?_
  refine AO.opB (O.alloc rfl (by (dsimp only [List.set, List.append, List.cons_append, List.nil_append, roB_cells, roI_cells, roO_cells, stA, splice, ofConst, AV.cells, List.map, List.map_cons, List.map_nil, List.take, List.drop, Nat.zero_add, Nat.add_zero, Nat.reduceAdd, Nat.reduceMul, Nat.zero_mul, Value.cells, List.toList_toArray, zerosA, List.replicate, List.flatten, List.append_nil]; done)) (by rfl)) rfl rfl rfl ?_
  intro B6
  (refine AO.store (i := 0) rfl rfl rfl rfl rfl rfl (by rfl) (by rfl) (by rfl) (by (dsimp only [List.set, List.append, List.cons_append, List.nil_append, roB_cells, roI_cells, roO_cells, stA, splice, ofConst, AV.cells, List.map, List.map_cons, List.map_nil, List.take, List.drop, Nat.zero_add, Nat.add_zero, Nat.reduceAdd, Nat.reduceMul, Nat.zero_mul, Value.cells, List.toList_toArray, zerosA, List.replicate, List.flatten, List.append_nil]; done)) (by (dsimp only [List.set, List.append, List.cons_append, List.nil_append, roB_cells, roI_cells, roO_cells, stA, splice, ofConst, AV.cells, List.map, List.map_cons, List.map_nil, List.take, List.drop, Nat.zero_add, Nat.add_zero, Nat.reduceAdd, Nat.reduceMul, Nat.zero_mul, Value.cells, List.toList_toArray, zerosA, List.replicate, List.flatten, List.append_nil]; done)) ?_)
  refine AO.nil ?_
  refine AQ.thenN ?_
  refine AW.seq ?_
  refine AW.block ?_
  refine AW.g ?_
  refine G.closeRow (n := 1) (sz := 1) (cap := 1) 1 rfl rfl rfl (Nat.le_refl _) (by (unfold maxLen; omega)) ?_
  refine AW.u ?_
  refine AW.g ?_
  dsimp only [List.set]
  refine AW.u ?_
  refine AW.g ?_
  refine G.closeRow (n := 1) (sz := 1) (cap := 1) 2 rfl rfl rfl (Nat.le_refl _) (by (unfold maxLen; omega)) ?_
  refine AW.u ?_
  refine AW.g ?_
  dsimp only [List.set]
  refine AW.u ?_
  refine AW.g ?_
  refine G.closeRow (n := 1) (sz := 1) (cap := 1) 3 rfl rfl rfl (Nat.le_refl _) (by (unfold maxLen; omega)) ?_
  refine AW.u ?_
  refine AW.g ?_
  dsimp only [List.set]
  refine AW.u ?_
  refine AW.g ?_
  refine G.nilRo 4 rfl ?_
  refine AW.u ?_
  refine AW.loopK [(3, _), (6, _), (7, _)] (fun nn E H => ∃ (kk : Nat) (now : Int) (c : List Cd) (s : Nat → Int) (L : Nat → List Int) (V0 V1 V2 : Value), (kk ≤ l.length) ∧ (0 ≤ now ∧ now ≤ 11 * (kk : Int)) ∧ (COk c) ∧ (GoodC s L now c) ∧ (NumP kk l.length now s L) ∧ (V0.oneCell' = true) ∧ (V1.oneCell' = true) ∧ (V2.oneCell' = true) ∧ nn = l.length - kk ∧ E = [(4, roCd c), (5, .val (.int .i64 now))] ∧ H = [.blk B6 86 3 [.val V0, .val V1, .val V2], .blk B2 85 3 (stA s), .row V0 3 1 (L 0).length (intsA .i64 (L 0)), .row V1 3 1 (L 1).length (intsA .i64 (L 1)), .row V2 3 1 (L 2).length (intsA .i64 (L 2)), deck B1 l kk]) _ (⟨0, 0, [], fun _ => 0, fun _ => [0], _, _, _, by omega, by omega, ⟨by simp, fun e he => by cases he⟩, (fun e he => by cases he), (fun k hk => ⟨Int.le_refl _, .inl (Int.le_refl _), rfl⟩), rfl, rfl, rfl, rfl, rfl, rfl⟩) (by repeat (first | exact envNil | refine envCons rfl ?_)) (by repeat (first | exact envNil | refine envCons rfl ?_)) (by repeat (first | exact subPnil | refine subPcons 0 rfl ?_ | refine subPcons 1 rfl ?_ | refine subPcons 2 rfl ?_ | refine subPcons 3 rfl ?_)) ?_
  rintro nn E H ⟨kk, now, c, s, L, V0, V1, V2, hkk, hn, hc, hg, hs, hV0, hV1, hV2, rfl, rfl, rfl⟩
  dsimp only [List.cons_append, List.nil_append]
  refine AW.seq ?_
  refine AW.seq ?_
  refine AW.region ?_
  refine AO.op (O.move rfl rfl) rfl rfl rfl ?_
  (refine AO.callM1 (i := 5) rfl rfl Tryz.func12 rfl rfl rfl rfl rfl rfl (left_fn _ _ _) (by (dsimp only [List.set, List.append, List.cons_append, List.nil_append, roB_cells, roI_cells, roO_cells, stA, splice, ofConst, AV.cells, List.map, List.map_cons, List.map_nil, List.take, List.drop, Nat.zero_add, Nat.add_zero, Nat.reduceAdd, Nat.reduceMul, Nat.zero_mul, Value.cells, List.toList_toArray, zerosA, List.replicate, List.flatten, List.append_nil]; done)) ?_)
  refine AO.nil ?_
  refine AQ.thenN ?_
  refine AW.split rfl (fun hleft => ?_) (fun hleft => ?_) <;> (try simp only [decide_eq_true_eq, decide_eq_false_iff_not, beq_iff_eq, beq_eq_false_iff_ne, bne_iff_ne, bne_eq_false_iff_eq, Bool.not_eq_true', Bool.not_eq_false', Bool.not_eq_true, Bool.not_eq_false, ne_eq, Int.not_lt, Int.not_le, Bool.and_eq_true, Bool.or_eq_true, Bool.or_eq_false_iff, Bool.and_eq_false_imp, strOf_toList, Decidable.not_not] at hleft)
  ·skip
   have e1 := adv_in hleft
   have hz1 := nxt_in l kk (n := 12) (by omega)
   have hz2 := nxt_in l (adv l kk) (n := 3) (by omega)
   have g2 := adv_ge l (adv l kk)
   have g3 := adv_ge l (adv l (adv l kk))
   have g4 := adv_ge l (adv l (adv l (adv l kk)))
   have b2 : adv l (adv l kk) ≤ l.length := adv_le' (adv_le' hkk)
   have b3 : adv l (adv l (adv l kk)) ≤ l.length := adv_le' b2
   have b4 : adv l (adv l (adv l (adv l kk))) ≤ l.length := adv_le' b3
   have h44 := adv4 hleft
   have hgl := hg.later (now2 := now + nxt l kk 12) (by omega)
   obtain ⟨now2, hnow2⟩ : ∃ now2, now2 = now + nxt l kk 12 := ⟨_, rfl⟩
   have hn2 : 0 ≤ now2 ∧ now2 ≤ 1000000 := by omega
   have hn3 : now2 ≤ 11 * (kk : Int) + 11 := by omega
   rw [← hnow2] at hgl
   rcases (show nxt l (adv l kk) 3 = 0 ∨ nxt l (adv l kk) 3 = 1 ∨ nxt l (adv l kk) 3 = 2 by omega) with h3 | h3 | h3
   ·skip
    obtain ⟨sk, hsk⟩ : ∃ sk, sk = s 0 := ⟨_, rfl⟩
    obtain ⟨hs0, hs4, hsl⟩ := hs 0 (by omega)
    have hs75 : s 0 ≤ 75 := by omega
    refine AW.skip ?_
    refine AQ.thenN ?_
    refine AW.block ?_
    refine AW.seq ?_
    refine AW.region ?_
    refine AO.op (O.move rfl rfl) rfl rfl rfl ?_
    refine AO.op (O.move rfl rfl) rfl rfl rfl ?_
    (refine AO.callM1 (i := 5) rfl rfl Tryz.func13 rfl rfl rfl rfl rfl rfl (next_fn _ _ _ _ hl (by repeat (assumption)) (by omega) (by omega)) (by (dsimp only [List.set, List.append, List.cons_append, List.nil_append, roB_cells, roI_cells, roO_cells, stA, splice, ofConst, AV.cells, List.map, List.map_cons, List.map_nil, List.take, List.drop, Nat.zero_add, Nat.add_zero, Nat.reduceAdd, Nat.reduceMul, Nat.zero_mul, Value.cells, List.toList_toArray, zerosA, List.replicate, List.flatten, List.append_nil]; done)) ?_)
    refine AO.op (O.add rfl rfl rfl (by exact wI64 (by omega))) rfl rfl rfl ?_
    refine AO.op (O.assign rfl rfl) rfl rfl rfl ?_
    refine AO.g ?_
    refine G.re 5 (.val (.int .i64 now2)) (congrArg (fun z => some (AV.val (.int .i64 z))) hnow2.symm) ?_
    refine AO.u ?_
    refine AO.nil ?_
    refine AQ.thenN ?_
    refine AW.seq ?_
    refine AW.region ?_
    refine AO.op (O.move rfl rfl) rfl rfl rfl ?_
    (refine AO.callM1 (i := 5) rfl rfl Tryz.func13 rfl rfl rfl rfl rfl rfl (next_fn _ _ _ _ hl (by repeat (first | assumption | refine adv_le' ?_)) (by omega) (by omega)) (by (dsimp only [List.set, List.append, List.cons_append, List.nil_append, roB_cells, roI_cells, roO_cells, stA, splice, ofConst, AV.cells, List.map, List.map_cons, List.map_nil, List.take, List.drop, Nat.zero_add, Nat.add_zero, Nat.reduceAdd, Nat.reduceMul, Nat.zero_mul, Value.cells, List.toList_toArray, zerosA, List.replicate, List.flatten, List.append_nil]; done)) ?_)
    refine AO.op (O.assign rfl rfl) rfl rfl rfl ?_
    refine AO.g ?_
    refine G.re 8 (.val (.int .i64 0)) (congrArg (fun z => some (AV.val (.int .i64 z))) h3) ?_
    refine AO.u ?_
    refine AO.nil ?_
    refine AQ.thenN ?_
    refine AW.seq ?_
    refine AW.region ?_
    refine AO.op (O.build rfl rfl rfl (by rfl)) rfl rfl rfl ?_
    refine AO.op (O.move rfl rfl) rfl rfl rfl ?_
    refine AO.op (O.add rfl rfl rfl (by exact wI64 (by omega))) rfl rfl rfl ?_
    refine AO.op (O.conv rfl rfl (by rfl)) rfl rfl rfl ?_
    refine AO.op (O.runeS rfl rfl rfl) rfl rfl rfl ?_
    refine AO.g ?_
    refine G.re 46 (.val (.string (sC 97))) (congrArg (fun z => some (AV.val (.string z))) (by decide +kernel)) ?_
    refine AO.u ?_
    refine AO.op (O.addS rfl rfl rfl (by decide) (by rfl)) rfl rfl rfl ?_
    refine AO.g ?_
    refine G.re 47 (.val (.string (pC 97))) (congrArg (fun z => some (AV.val (.string z))) (by decide +kernel)) ?_
    refine AO.u ?_
    (refine AO.op (O.callC rfl Tryz.func29 rfl rfl rfl (setpath_fn 97 (.inl rfl)) (by (repeat (first | exact CoeL.nil | refine CoeL.cons Coe.rfl ?_ | refine CoeL.cons Coe.nil ?_ | refine CoeL.cons (Coe.agg ?_) ?_)); done)) rfl rfl rfl ?_)
    refine AO.op (O.move rfl rfl) rfl rfl rfl ?_
    refine AO.op (O.extract rfl rfl rfl) rfl rfl rfl ?_
    refine AO.op (O.extract rfl rfl rfl) rfl rfl rfl ?_
    refine AO.opB (O.alloc rfl (by (dsimp only [List.set, List.append, List.cons_append, List.nil_append, roB_cells, roI_cells, roO_cells, stA, splice, ofConst, AV.cells, List.map, List.map_cons, List.map_nil, List.take, List.drop, Nat.zero_add, Nat.add_zero, Nat.reduceAdd, Nat.reduceMul, Nat.zero_mul, Value.cells, List.toList_toArray, zerosA, List.replicate, List.flatten, List.append_nil]; done)) (by rfl)) rfl rfl rfl ?_
    intro B7
    (refine AO.store (i := 0) rfl rfl rfl rfl rfl rfl (by rfl) (by rfl) (by rfl) (by (dsimp only [List.set, List.append, List.cons_append, List.nil_append, roB_cells, roI_cells, roO_cells, stA, splice, ofConst, AV.cells, List.map, List.map_cons, List.map_nil, List.take, List.drop, Nat.zero_add, Nat.add_zero, Nat.reduceAdd, Nat.reduceMul, Nat.zero_mul, Value.cells, List.toList_toArray, zerosA, List.replicate, List.flatten, List.append_nil]; done)) (by (dsimp only [List.set, List.append, List.cons_append, List.nil_append, roB_cells, roI_cells, roO_cells, stA, splice, ofConst, AV.cells, List.map, List.map_cons, List.map_nil, List.take, List.drop, Nat.zero_add, Nat.add_zero, Nat.reduceAdd, Nat.reduceMul, Nat.zero_mul, Value.cells, List.toList_toArray, zerosA, List.replicate, List.flatten, List.append_nil]; done)) ?_)
    refine AO.op (O.assign rfl rfl) rfl rfl rfl ?_
    refine AO.nil ?_
    refine AQ.thenN ?_
    refine AW.seq ?_
    refine AW.seq ?_
    refine AW.region ?_
    refine AO.op (O.move rfl rfl) rfl rfl rfl ?_
    refine AO.op (O.neq rfl rfl rfl (by exact bne_eq_false_iff_eq.2 (by omega))) rfl rfl rfl ?_
    refine AO.nil ?_
    refine AQ.thenN ?_
    refine AW.condF rfl ?_
    refine AW.skip ?_
    refine AQ.thenN ?_
    refine AW.seq ?_
    refine AW.region ?_
    (refine AO.op (O.loadK rfl rfl (by repeat (exact List.Mem.head _)) (by (dsimp only [List.set, List.append, List.cons_append, List.nil_append, roB_cells, roI_cells, roO_cells, stA, splice, ofConst, AV.cells, List.map, List.map_cons, List.map_nil, List.take, List.drop, Nat.zero_add, Nat.add_zero, Nat.reduceAdd, Nat.reduceMul, Nat.zero_mul, Value.cells, List.toList_toArray, zerosA, List.replicate, List.flatten, List.append_nil]; done)) (by rfl)) rfl rfl rfl ?_)
    refine AO.op (O.call rfl Tryz.func30 rfl rfl rfl (cachekey_fn 97)) rfl rfl rfl ?_
    refine AO.op (O.assign rfl rfl) rfl rfl rfl ?_
    refine AO.nil ?_
    refine AQ.thenN ?_
    refine AW.seq ?_
    refine AW.region ?_
    refine AO.op (O.move rfl rfl) rfl rfl rfl ?_
    (refine AO.callM1 (i := 6) rfl rfl Tryz.func13 rfl rfl rfl rfl rfl rfl (next_fn _ _ _ _ hl (by repeat (assumption)) (by omega) (by omega)) (by (dsimp only [List.set, List.append, List.cons_append, List.nil_append, roB_cells, roI_cells, roO_cells, stA, splice, ofConst, AV.cells, List.map, List.map_cons, List.map_nil, List.take, List.drop, Nat.zero_add, Nat.add_zero, Nat.reduceAdd, Nat.reduceMul, Nat.zero_mul, Value.cells, List.toList_toArray, zerosA, List.replicate, List.flatten, List.append_nil]; done)) ?_)
    refine AO.nil ?_
    refine AQ.thenN ?_
    refine AW.block ?_
    refine AW.seq ?_
    refine AW.region ?_
    refine AO.op (O.eql rfl rfl rfl (by rfl)) rfl rfl rfl ?_
    refine AO.op (O.assign rfl rfl) rfl rfl rfl ?_
    refine AO.nil ?_
    refine AQ.thenN ?_
    refine AW.split rfl (fun h0 => ?_) (fun h0 => ?_) <;> (try simp only [decide_eq_true_eq, decide_eq_false_iff_not, beq_iff_eq, beq_eq_false_iff_ne, bne_iff_ne, bne_eq_false_iff_eq, Bool.not_eq_true', Bool.not_eq_false', Bool.not_eq_true, Bool.not_eq_false, ne_eq, Int.not_lt, Int.not_le, Bool.and_eq_true, Bool.or_eq_true, Bool.or_eq_false_iff, Bool.and_eq_false_imp, strOf_toList, Decidable.not_not] at h0)
    ·skip
     have hup := hgl.up (k0 := 0) hs0 hsl
     have hsu := hs.up (now2 := now2) hleft (kk2 := adv l (adv l (adv l (adv l kk)))) h44 0 now2
     have hL1 : (updP L 0 (L 0 ++ [now2]) 0).length = (L 0).length + 1 := by rw [updP_eq]; simp
     have hL2 : intsA .i64 (updP L 0 (L 0 ++ [now2]) 0) = intsA .i64 (L 0) ++ [.val (.int .i64 now2)] := by rw [updP_eq]; simp [intsA]
     refine AW.seq ?_
     refine AW.region ?_
     refine AO.op (O.move rfl rfl) rfl rfl rfl ?_
     refine AO.op (O.idxL rfl rfl rfl ⟨(by omega), (by omega)⟩) rfl rfl rfl ?_
     refine AO.op (O.load rfl rfl (by repeat (first | exact List.Mem.head _ | refine List.Mem.tail _ ?_)) (by rfl)) rfl rfl rfl ?_
     refine AO.op (O.add rfl rfl rfl (by exact wI64 (by omega))) rfl rfl rfl ?_
     refine AO.op (O.idxL rfl rfl rfl ⟨(by omega), (by omega)⟩) rfl rfl rfl ?_
     (refine AO.store (i := 2) rfl rfl rfl rfl rfl rfl (by rfl) (by rfl) (by rfl) (by (dsimp only [List.set, List.append, List.cons_append, List.nil_append, roB_cells, roI_cells, roO_cells, stA, splice, ofConst, AV.cells, List.map, List.map_cons, List.map_nil, List.take, List.drop, Nat.zero_add, Nat.add_zero, Nat.reduceAdd, Nat.reduceMul, Nat.zero_mul, Value.cells, List.toList_toArray, zerosA, List.replicate, List.flatten, List.append_nil]; done)) (by (dsimp only [List.set, List.append, List.cons_append, List.nil_append, roB_cells, roI_cells, roO_cells, stA, splice, ofConst, AV.cells, List.map, List.map_cons, List.map_nil, List.take, List.drop, Nat.zero_add, Nat.add_zero, Nat.reduceAdd, Nat.reduceMul, Nat.zero_mul, Value.cells, List.toList_toArray, zerosA, List.replicate, List.flatten, List.append_nil]; done)) ?_)
     refine AO.nil ?_
     refine AQ.thenN ?_
     refine AW.seq ?_
     refine AW.region ?_
     refine AO.op (O.move rfl rfl) rfl rfl rfl ?_
     refine AO.op (O.move rfl rfl) rfl rfl rfl ?_
     refine AO.op (O.idxL rfl rfl rfl ⟨(by omega), (by omega)⟩) rfl rfl rfl ?_
     refine AO.op (O.load rfl rfl (by repeat (first | exact List.Mem.head _ | refine List.Mem.tail _ ?_)) (by rfl)) rfl rfl rfl ?_
     refine AO.op (O.move rfl rfl) rfl rfl rfl ?_
     refine AO.opB (O.buildSlice rfl rfl rfl (by rfl) (by rfl) (by rfl) (by rfl)) rfl rfl rfl ?_
     intro B8
     refine AO.g ?_
     (refine G.freezeSl 0 201 rfl rfl ⟨Nat.le_refl _, by unfold maxLen; omega⟩ ?_)
     refine G.unfull 201 rfl ?_
     refine AO.u ?_
     dsimp only [List.eraseIdx]
     (refine AO.append' (i := 3) rfl rfl rfl rfl (by rfl) (by rfl) rfl rfl rfl (by exact SrcA.ro TyD.ax (by rfl) (Nat.le_of_ble_eq_true rfl)) (by rfl) (by (unfold maxLen; omega)) (by omega) (by (dsimp only [List.set, List.append, List.cons_append, List.nil_append, roB_cells, roI_cells, roO_cells, stA, splice, ofConst, AV.cells, List.map, List.map_cons, List.map_nil, List.take, List.drop, Nat.zero_add, Nat.add_zero, Nat.reduceAdd, Nat.reduceMul, Nat.zero_mul, Value.cells, List.toList_toArray, zerosA, List.replicate, List.flatten, List.append_nil]; done)) (fun _ => by (dsimp only [List.set]; done)) ?_)
     intro V9 hV9
     refine AO.op (O.idxL rfl rfl rfl ⟨(by omega), (by omega)⟩) rfl rfl rfl ?_
     (refine AO.store (i := 1) rfl rfl rfl rfl rfl rfl (by (simp [AV.cells, AV.one, *]; done)) (by rfl) (by rfl) (by (dsimp only [List.set, List.append, List.cons_append, List.nil_append, roB_cells, roI_cells, roO_cells, stA, splice, ofConst, AV.cells, List.map, List.map_cons, List.map_nil, List.take, List.drop, Nat.zero_add, Nat.add_zero, Nat.reduceAdd, Nat.reduceMul, Nat.zero_mul, Value.cells, List.toList_toArray, zerosA, List.replicate, List.flatten, List.append_nil]; done)) (by (dsimp only [List.set, List.append, List.cons_append, List.nil_append, roB_cells, roI_cells, roO_cells, stA, splice, ofConst, AV.cells, List.map, List.map_cons, List.map_nil, List.take, List.drop, Nat.zero_add, Nat.add_zero, Nat.reduceAdd, Nat.reduceMul, Nat.zero_mul, Value.cells, List.toList_toArray, zerosA, List.replicate, List.flatten, List.append_nil]; done)) ?_)
     refine AO.nil ?_
     refine AQ.thenN ?_
     refine AW.seq ?_
     refine AW.region ?_
     refine AO.op (O.move rfl rfl) rfl rfl rfl ?_
     (refine AO.callM1 (i := 6) rfl rfl Tryz.func13 rfl rfl rfl rfl rfl rfl (next_fn _ _ _ _ hl (by repeat (assumption)) (by omega) (by omega)) (by (dsimp only [List.set, List.append, List.cons_append, List.nil_append, roB_cells, roI_cells, roO_cells, stA, splice, ofConst, AV.cells, List.map, List.map_cons, List.map_nil, List.take, List.drop, Nat.zero_add, Nat.add_zero, Nat.reduceAdd, Nat.reduceMul, Nat.zero_mul, Value.cells, List.toList_toArray, zerosA, List.replicate, List.flatten, List.append_nil]; done)) ?_)
     refine AO.op (O.eql rfl rfl rfl (by rfl)) rfl rfl rfl ?_
     refine AO.nil ?_
     refine AQ.thenN ?_
     refine AW.split rfl (fun hr => ?_) (fun hr => ?_) <;> (try simp only [decide_eq_true_eq, decide_eq_false_iff_not, beq_iff_eq, beq_eq_false_iff_ne, bne_iff_ne, bne_eq_false_iff_eq, Bool.not_eq_true', Bool.not_eq_false', Bool.not_eq_true, Bool.not_eq_false, ne_eq, Int.not_lt, Int.not_le, Bool.and_eq_true, Bool.or_eq_true, Bool.or_eq_false_iff, Bool.and_eq_false_imp, strOf_toList, Decidable.not_not] at hr)
     ·skip
      refine AW.region ?_
      refine AO.op (O.move rfl rfl) rfl rfl rfl ?_
      refine AO.op (O.move rfl rfl) rfl rfl rfl ?_
      (refine AO.op (O.call rfl Tryz.func31 rfl rfl rfl (remove_fn c 97 (by have := hc.len; omega))) rfl rfl rfl ?_)
      refine AO.op (O.assign rfl rfl) rfl rfl rfl ?_
      refine AO.nil ?_
      refine AQ.blockN ?_
      refine AQ.blockN ?_
      rw [← hL1, ← hL2]
      refine AQ.loopKN _ _ _ (by omega) (⟨_, now2, _, updP s 0 (s 0 + 1), updP L 0 (L 0 ++ [now2]), _, V1, V2, b4, by omega, hc.rem _, hup.sub (fun e he => (List.mem_filter.1 he).1), hsu, ‹_›, hV1, hV2, rfl, rfl, rfl⟩) (by repeat (first | exact envNil | refine envCons rfl ?_)) (by repeat (first | exact envNil | refine envCons rfl ?_)) (by repeat (first | exact subPnil | refine subPcons 1 rfl ?_))
     ·skip
      refine AW.skip ?_
      refine AQ.blockN ?_
      refine AQ.blockN ?_
      rw [← hL1, ← hL2]
      refine AQ.loopKN _ _ _ (by omega) (⟨_, now2, _, updP s 0 (s 0 + 1), updP L 0 (L 0 ++ [now2]), _, V1, V2, b4, by omega, hc, hup, hsu, ‹_›, hV1, hV2, rfl, rfl, rfl⟩) (by repeat (first | exact envNil | refine envCons rfl ?_)) (by repeat (first | exact envNil | refine envCons rfl ?_)) (by repeat (first | exact subPnil | refine subPcons 1 rfl ?_))
    ·skip
     have hz5 := nxt_in l (adv l (adv l (adv l kk))) (n := 30) (by omega)
     obtain ⟨a, ha⟩ : ∃ a, a = 1 + nxt l (adv l (adv l (adv l kk))) 30 := ⟨_, rfl⟩
     have ha30 : 1 ≤ a ∧ a ≤ 30 := by omega
     have hu8 : ((u8 (s 0)).toNat : Int) = s 0 := by rw [u8_nat]; omega
     rcases posC_cases c 97 with ⟨hp, hno⟩ | ⟨q, hq, hp, hk⟩
     ·skip
      have hcok : COk (c ++ [newC 97 (u8 (s 0)) a now2]) := hc.add hno ⟨.inl rfl, ha30, hn2, ha30⟩
      have hgok : GoodC s L now2 (c ++ [newC 97 (u8 (s 0)) a now2]) := hgl.add (Int.le_refl _) (okC_new (k0 := 0) (by omega) rfl hu8)
      have hql : c.length < (c ++ [newC 97 (u8 (s 0)) a now2]).length := by simp
      have hpq := posC_at hcok hql (k := 97) (by rw [cd_add])
      have hlk := lookupT_fn _ 97 now2 _ hcok hpq hql hn2 (by rw [cd_add]; exact ⟨Int.le_refl _, by show now2 - now2 < a; omega⟩) (v := u8 (s 0)) (a := a - (now2 - now2)) (by rw [cd_add]) (by rw [cd_add])
      have hv1 : ((u8 (s 0)).toNat : Int) ≤ s 0 := by omega
      have hv2 : ((u8 (s 0)).toNat : Int) < s 0 → now2 - 30 < (L 0).getD ((u8 (s 0)).toNat + 1) 0 := fun h => by omega
      refine AW.seq ?_
      refine AW.region ?_
      refine AO.op (O.move rfl rfl) rfl rfl rfl ?_
      refine AO.op (O.move rfl rfl) rfl rfl rfl ?_
      refine AO.op (O.move rfl rfl) rfl rfl rfl ?_
      refine AO.op (O.call rfl Tryz.func32 rfl rfl rfl (lookup0_fn c 97 now2 hc hp)) rfl rfl rfl ?_
      refine AO.op (O.move rfl rfl) rfl rfl rfl ?_
      refine AO.op (O.extract rfl rfl rfl) rfl rfl rfl ?_
      refine AO.op (O.extract rfl rfl rfl) rfl rfl rfl ?_
      refine AO.opB (O.alloc rfl (by (dsimp only [List.set, List.append, List.cons_append, List.nil_append, roB_cells, roI_cells, roO_cells, stA, splice, ofConst, AV.cells, List.map, List.map_cons, List.map_nil, List.take, List.drop, Nat.zero_add, Nat.add_zero, Nat.reduceAdd, Nat.reduceMul, Nat.zero_mul, Value.cells, List.toList_toArray, zerosA, List.replicate, List.flatten, List.append_nil]; done)) (by rfl)) rfl rfl rfl ?_
      intro B10
      (refine AO.store (i := 0) rfl rfl rfl rfl rfl rfl (by rfl) (by rfl) (by rfl) (by (dsimp only [List.set, List.append, List.cons_append, List.nil_append, roB_cells, roI_cells, roO_cells, stA, splice, ofConst, AV.cells, List.map, List.map_cons, List.map_nil, List.take, List.drop, Nat.zero_add, Nat.add_zero, Nat.reduceAdd, Nat.reduceMul, Nat.zero_mul, Value.cells, List.toList_toArray, zerosA, List.replicate, List.flatten, List.append_nil]; done)) (by (dsimp only [List.set, List.append, List.cons_append, List.nil_append, roB_cells, roI_cells, roO_cells, stA, splice, ofConst, AV.cells, List.map, List.map_cons, List.map_nil, List.take, List.drop, Nat.zero_add, Nat.add_zero, Nat.reduceAdd, Nat.reduceMul, Nat.zero_mul, Value.cells, List.toList_toArray, zerosA, List.replicate, List.flatten, List.append_nil]; done)) ?_)
      refine AO.op (O.assign rfl rfl) rfl rfl rfl ?_
      refine AO.nil ?_
      refine AQ.thenN ?_
      refine AW.seq ?_
      refine AW.seq ?_
      refine AW.region ?_
      refine AO.op (O.move rfl rfl) rfl rfl rfl ?_
      refine AO.op (O.not rfl rfl (by rfl)) rfl rfl rfl ?_
      refine AO.nil ?_
      refine AQ.thenN ?_
      refine AW.condT rfl ?_
      refine AW.seq ?_
      refine AW.region ?_
      refine AO.op (O.move rfl rfl) rfl rfl rfl ?_
      refine AO.op (O.move rfl rfl) rfl rfl rfl ?_
      refine AO.op (O.call rfl Tryz.func33 rfl rfl rfl (tag0_fn c 97 hc hp)) rfl rfl rfl ?_
      refine AO.op (O.move rfl rfl) rfl rfl rfl ?_
      refine AO.op (O.extract rfl rfl rfl) rfl rfl rfl ?_
      refine AO.op (O.extract rfl rfl rfl) rfl rfl rfl ?_
      refine AO.op (O.assign rfl rfl) rfl rfl rfl ?_
      refine AO.op (O.assign rfl rfl) rfl rfl rfl ?_
      refine AO.nil ?_
      refine AQ.thenN ?_
      refine AW.seq ?_
      refine AW.region ?_
      refine AO.op (O.move rfl rfl) rfl rfl rfl ?_
      (refine AO.callM1 (i := 7) rfl rfl Tryz.func13 rfl rfl rfl rfl rfl rfl (next_fn _ _ _ _ hl (by repeat (assumption)) (by omega) (by omega)) (by (dsimp only [List.set, List.append, List.cons_append, List.nil_append, roB_cells, roI_cells, roO_cells, stA, splice, ofConst, AV.cells, List.map, List.map_cons, List.map_nil, List.take, List.drop, Nat.zero_add, Nat.add_zero, Nat.reduceAdd, Nat.reduceMul, Nat.zero_mul, Value.cells, List.toList_toArray, zerosA, List.replicate, List.flatten, List.append_nil]; done)) ?_)
      refine AO.op (O.add rfl rfl rfl (by exact wI64 (by omega))) rfl rfl rfl ?_
      refine AO.op (O.assign rfl rfl) rfl rfl rfl ?_
      refine AO.g ?_
      refine G.re 16 (.val (.int .i64 a)) (congrArg (fun z => some (AV.val (.int .i64 z))) ha.symm) ?_
      refine AO.u ?_
      refine AO.nil ?_
      refine AQ.thenN ?_
      refine AW.seq ?_
      refine AW.regionD 17 (by kernel_rfl) (by kernel_rfl) ?_
      simp only [List.take_succ_cons, List.take_zero, List.drop_succ_cons, List.drop_zero]
      refine FA.op (O.move rfl rfl) rfl rfl rfl rfl ?_
      refine FA.op (O.idxL rfl rfl rfl ⟨(by omega), (by omega)⟩) rfl rfl rfl rfl ?_
      refine FA.op (O.load rfl rfl (by repeat (first | exact List.Mem.head _ | refine List.Mem.tail _ ?_)) (by rfl)) rfl rfl rfl rfl ?_
      refine FA.op (O.conv rfl rfl wU8any) rfl rfl rfl rfl ?_
      refine FA.op (OpW.frz (O.buildSlice rfl rfl rfl (by rfl) (by rfl) (by rfl) (by rfl)) (by (unfold maxLen; omega))) rfl rfl rfl rfl ?_
      refine FA.op (O.build rfl rfl rfl (by rfl)) rfl rfl rfl rfl ?_
      refine FA.op (O.move rfl rfl) rfl rfl rfl rfl ?_
      refine FA.op (O.idxL rfl rfl rfl ⟨(by omega), (by omega)⟩) rfl rfl rfl rfl ?_
      refine FA.op (O.load rfl rfl (by repeat (first | exact List.Mem.head _ | refine List.Mem.tail _ ?_)) (by rfl)) rfl rfl rfl rfl ?_
      refine FA.op (O.conv rfl rfl wU8any) rfl rfl rfl rfl ?_
      refine FA.op (OpW.frz (O.buildSlice rfl rfl rfl (by rfl) (by rfl) (by rfl) (by rfl)) (by (unfold maxLen; omega))) rfl rfl rfl rfl ?_
      refine FA.op (OpW.frz (O.buildSlice rfl rfl rfl (by rfl) (by rfl) (by rfl) (by rfl)) (by (unfold maxLen; omega))) rfl rfl rfl rfl ?_
      (refine FA.op (O.callC rfl Tryz.func15 rfl rfl rfl (setE_fn 69 [u8 (s 0)] (u8 (s 0)) (by simp)) (by (repeat (first | exact CoeL.nil | refine CoeL.cons Coe.rfl ?_ | refine CoeL.cons Coe.nil ?_ | refine CoeL.cons (Coe.agg ?_) ?_)); done)) rfl rfl rfl rfl ?_)
      refine FA.op (O.move rfl rfl) rfl rfl rfl rfl ?_
      refine FA.op (O.call rfl Tryz.func16 rfl rfl rfl (fromC_fn a (by omega))) rfl rfl rfl rfl ?_
      refine FA.op (OpW.frz (O.buildSlice rfl rfl rfl (by rfl) (by rfl) (by rfl) (by rfl)) (by (unfold maxLen; omega))) rfl rfl rfl rfl ?_
      refine FA.op (O.call rfl Tryz.func15 rfl rfl rfl (setA_fn 69 [u8 (s 0)] (u8 (s 0)) a (by simp))) rfl rfl rfl rfl ?_
      refine FA.nil ?_
      simp only [chosen, List.nil_append, List.cons_append, List.append_nil]
      (refine AO.store (i := 0) rfl rfl rfl rfl rfl rfl (by rfl) (by rfl) (by rfl) (by (dsimp only [List.set, List.append, List.cons_append, List.nil_append, roB_cells, roI_cells, roO_cells, stA, splice, ofConst, AV.cells, List.map, List.map_cons, List.map_nil, List.take, List.drop, Nat.zero_add, Nat.add_zero, Nat.reduceAdd, Nat.reduceMul, Nat.zero_mul, Value.cells, List.toList_toArray, zerosA, List.replicate, List.flatten, List.append_nil]; done)) (by (dsimp only [List.set, List.append, List.cons_append, List.nil_append, roB_cells, roI_cells, roO_cells, stA, splice, ofConst, AV.cells, List.map, List.map_cons, List.map_nil, List.take, List.drop, Nat.zero_add, Nat.add_zero, Nat.reduceAdd, Nat.reduceMul, Nat.zero_mul, Value.cells, List.toList_toArray, zerosA, List.replicate, List.flatten, List.append_nil]; done)) ?_)
      refine AO.nil ?_
      refine AQ.thenN ?_
      refine AW.seq ?_
      refine AW.seq ?_
      refine AW.regionD 16 (by kernel_rfl) (by kernel_rfl) ?_
      simp only [List.take_succ_cons, List.take_zero, List.drop_succ_cons, List.drop_zero]
      refine FA.op (O.move rfl rfl) rfl rfl rfl rfl ?_
      refine FA.op (O.move rfl rfl) rfl rfl rfl rfl ?_
      refine FA.no rfl rfl rfl rfl ?_
      refine FA.no rfl rfl rfl rfl ?_
      refine FA.no rfl rfl rfl rfl ?_
      refine FA.op (O.pickF rfl rfl rfl) rfl rfl rfl rfl ?_
      refine FA.op (O.move rfl rfl) rfl rfl rfl rfl ?_
      refine FA.no rfl rfl rfl rfl ?_
      refine FA.no rfl rfl rfl rfl ?_
      refine FA.no rfl rfl rfl rfl ?_
      refine FA.no rfl rfl rfl rfl ?_
      refine FA.no rfl rfl rfl rfl ?_
      refine FA.no rfl rfl rfl rfl ?_
      refine FA.no rfl rfl rfl rfl ?_
      refine FA.no rfl rfl rfl rfl ?_
      refine FA.op (O.pickF rfl rfl rfl) rfl rfl rfl rfl ?_
      refine FA.nil ?_
      simp only [chosen, List.nil_append, List.cons_append, List.append_nil]
      refine AO.nil ?_
      refine AQ.thenN ?_
      refine AW.condF rfl ?_
      refine AW.seq ?_
      refine AW.region ?_
      refine AO.op (O.move rfl rfl) rfl rfl rfl ?_
      refine AO.op (O.move rfl rfl) rfl rfl rfl ?_
      (refine AO.op (O.loadK rfl rfl (by repeat (exact List.Mem.head _)) (by (dsimp only [List.set, List.append, List.cons_append, List.nil_append, roB_cells, roI_cells, roO_cells, stA, splice, ofConst, AV.cells, List.map, List.map_cons, List.map_nil, List.take, List.drop, Nat.zero_add, Nat.add_zero, Nat.reduceAdd, Nat.reduceMul, Nat.zero_mul, Value.cells, List.toList_toArray, zerosA, List.replicate, List.flatten, List.append_nil]; done)) (by rfl)) rfl rfl rfl ?_)
      refine AO.op (O.move rfl rfl) rfl rfl rfl ?_
      refine AO.op (O.call rfl Tryz.func35 rfl rfl rfl (insert0_fn c 97 (u8 (s 0)) a now2 hc hp ha30 hn2)) rfl rfl rfl ?_
      refine AO.op (O.move rfl rfl) rfl rfl rfl ?_
      refine AO.op (O.extract rfl rfl rfl) rfl rfl rfl ?_
      refine AO.op (O.extract rfl rfl rfl) rfl rfl rfl ?_
      refine AO.op (O.assign rfl rfl) rfl rfl rfl ?_
      refine AO.op (O.assign rfl rfl) rfl rfl rfl ?_
      refine AO.nil ?_
      refine AQ.thenN ?_
      refine AW.seq ?_
      refine AW.seq ?_
      refine AW.region ?_
      refine AO.op (O.move rfl rfl) rfl rfl rfl ?_
      refine AO.op (O.neq rfl rfl rfl (by exact bne_eq_false_iff_eq.2 (by omega))) rfl rfl rfl ?_
      refine AO.nil ?_
      refine AQ.thenN ?_
      refine AW.condF rfl ?_
      refine AW.skip ?_
      refine AQ.thenN ?_
      refine AW.region ?_
      refine AO.op (O.move rfl rfl) rfl rfl rfl ?_
      refine AO.op (O.assign rfl rfl) rfl rfl rfl ?_
      refine AO.nil ?_
      refine AQ.thenN ?_
      refine AW.seq ?_
      refine AW.region ?_
      refine AO.op (O.move rfl rfl) rfl rfl rfl ?_
      refine AO.op (O.move rfl rfl) rfl rfl rfl ?_
      refine AO.op (O.move rfl rfl) rfl rfl rfl ?_
      refine AO.op (O.call rfl Tryz.func32 rfl rfl rfl (hlk)) rfl rfl rfl ?_
      refine AO.op (O.move rfl rfl) rfl rfl rfl ?_
      refine AO.op (O.extract rfl rfl rfl) rfl rfl rfl ?_
      refine AO.op (O.extract rfl rfl rfl) rfl rfl rfl ?_
      (refine AO.store (i := 0) rfl rfl rfl rfl rfl rfl (by rfl) (by rfl) (by rfl) (by (dsimp only [List.set, List.append, List.cons_append, List.nil_append, roB_cells, roI_cells, roO_cells, stA, splice, ofConst, AV.cells, List.map, List.map_cons, List.map_nil, List.take, List.drop, Nat.zero_add, Nat.add_zero, Nat.reduceAdd, Nat.reduceMul, Nat.zero_mul, Value.cells, List.toList_toArray, zerosA, List.replicate, List.flatten, List.append_nil]; done)) (by (dsimp only [List.set, List.append, List.cons_append, List.nil_append, roB_cells, roI_cells, roO_cells, stA, splice, ofConst, AV.cells, List.map, List.map_cons, List.map_nil, List.take, List.drop, Nat.zero_add, Nat.add_zero, Nat.reduceAdd, Nat.reduceMul, Nat.zero_mul, Value.cells, List.toList_toArray, zerosA, List.replicate, List.flatten, List.append_nil]; done)) ?_)
      refine AO.op (O.assign rfl rfl) rfl rfl rfl ?_
      refine AO.nil ?_
      refine AQ.thenN ?_
      refine AW.seq ?_
      refine AW.region ?_
      refine AO.op (O.move rfl rfl) rfl rfl rfl ?_
      refine AO.op (O.not rfl rfl (by rfl)) rfl rfl rfl ?_
      refine AO.nil ?_
      refine AQ.thenN ?_
      refine AW.condF rfl ?_
      have hlv : ([u8 (s 0)] : List UInt8).length = 1 := rfl
      refine AW.skip ?_
      refine AQ.thenN ?_
      refine AW.seq ?_
      refine AW.seq ?_
      refine AW.region ?_
      refine AO.op (O.fieldAddr rfl rfl) rfl rfl rfl ?_
      refine AO.op (O.load rfl rfl (by repeat (exact List.Mem.head _)) (by rfl)) rfl rfl rfl ?_
      refine AO.op (O.lenR rfl rfl) rfl rfl rfl ?_
      refine AO.op (O.neq rfl rfl rfl (by exact bne_eq_false_iff_eq.2 (by omega))) rfl rfl rfl ?_
      refine AO.op (O.move rfl rfl) rfl rfl rfl ?_
      refine AO.op (O.move rfl rfl) rfl rfl rfl ?_
      refine AO.op (O.idxL rfl rfl rfl ⟨(by omega), (by omega)⟩) rfl rfl rfl ?_
      refine AO.op (O.load rfl rfl (by repeat (first | exact List.Mem.head _ | refine List.Mem.tail _ ?_)) (by rfl)) rfl rfl rfl ?_
      refine AO.op (O.gtr rfl rfl rfl (by exact bFalse (by omega))) rfl rfl rfl ?_
      refine AO.op (O.pickF rfl rfl rfl) rfl rfl rfl ?_
      refine AO.nil ?_
      refine AQ.thenN ?_
      refine AW.condF rfl ?_
      refine AW.skip ?_
      refine AQ.thenN ?_
      refine AW.seq ?_
      refine AW.region ?_
      refine AO.op (O.fieldAddr rfl rfl) rfl rfl rfl ?_
      refine AO.op (O.load rfl rfl (by repeat (exact List.Mem.head _)) (by rfl)) rfl rfl rfl ?_
      refine AO.op (O.idxR rfl rfl rfl ⟨(by omega), (by omega)⟩) rfl rfl rfl ?_
      refine AO.op (O.loadR rfl rfl (by rfl)) rfl rfl rfl ?_
      refine AO.op (O.conv rfl rfl (by exact wI64 (by omega))) rfl rfl rfl ?_
      refine AO.op (O.assign rfl rfl) rfl rfl rfl ?_
      refine AO.nil ?_
      refine AQ.thenN ?_
      refine AW.seq ?_
      refine AW.region ?_
      refine AO.op (O.move rfl rfl) rfl rfl rfl ?_
      refine AO.op (O.move rfl rfl) rfl rfl rfl ?_
      refine AO.op (O.idxL rfl rfl rfl ⟨(by omega), (by omega)⟩) rfl rfl rfl ?_
      refine AO.op (O.load rfl rfl (by repeat (first | exact List.Mem.head _ | refine List.Mem.tail _ ?_)) (by rfl)) rfl rfl rfl ?_
      refine AO.op (O.gtr rfl rfl rfl (by exact bFalse (by omega))) rfl rfl rfl ?_
      refine AO.op (O.move rfl rfl) rfl rfl rfl ?_
      refine AO.op (O.move rfl rfl) rfl rfl rfl ?_
      refine AO.op (O.move rfl rfl) rfl rfl rfl ?_
      refine AO.op (O.idxL rfl rfl rfl ⟨(by omega), (by omega)⟩) rfl rfl rfl ?_
      refine AO.op (O.load rfl rfl (by repeat (first | exact List.Mem.head _ | refine List.Mem.tail _ ?_)) (by rfl)) rfl rfl rfl ?_
      refine AO.op (O.lss rfl rfl rfl (by exact bFalse (by omega))) rfl rfl rfl ?_
      refine AO.op (O.move rfl rfl) rfl rfl rfl ?_
      refine AO.no rfl rfl rfl ?_
      refine AO.no rfl rfl rfl ?_
      refine AO.no rfl rfl rfl ?_
      refine AO.no rfl rfl rfl ?_
      refine AO.no rfl rfl rfl ?_
      refine AO.no rfl rfl rfl ?_
      refine AO.no rfl rfl rfl ?_
      refine AO.no rfl rfl rfl ?_
      refine AO.no rfl rfl rfl ?_
      refine AO.no rfl rfl rfl ?_
      refine AO.op (O.pickF rfl rfl rfl) rfl rfl rfl ?_
      refine AO.op (O.pickF rfl rfl rfl) rfl rfl rfl ?_
      refine AO.nil ?_
      refine AQ.thenN ?_
      refine AW.condF rfl ?_
      refine AW.skip ?_
      refine AQ.blockN ?_
      refine AQ.blockN ?_
      refine AQ.loopKN _ _ _ (by omega) (⟨_, now2, _, s, L, V0, V1, V2, b4, by omega, hcok, hgok, hs.step hleft (by omega), hV0, hV1, hV2, rfl, rfl, rfl⟩) (by repeat (first | exact envNil | refine envCons rfl ?_)) (by repeat (first | exact envNil | refine envCons rfl ?_)) (by repeat (first | exact subPnil | refine subPcons 2 rfl ?_))
     ·skip
      have hqk : (cd c q).k = 97 := hk
      have hcq : CdOk (cd c q) := hc.2 _ (getD_mem Cd.none hq)
      have hgq : GoodC s L now2 c := hgl
      have hoq : OkC s L (cd c q) := (hgl _ (getD_mem Cd.none hq)).2
      by_cases hlive : Live (cd c q) now2
      ·skip
       have hlaw := fresh_law (k := 0) hoq (by omega) hqk hlive hcq.2.2.2.2
       obtain ⟨v, hv⟩ : ∃ v, v = (cd c q).v := ⟨_, rfl⟩
       rw [← hv] at hlaw
       obtain ⟨hv1, hv2⟩ := hlaw
       have hlk := lookupT_fn c 97 now2 q hc hp hq hn2 hlive hv.symm rfl
       generalize (cd c q).age - (now2 - (cd c q).at_) = a2 at hlk
       refine AW.seq ?_
       refine AW.region ?_
       refine AO.op (O.move rfl rfl) rfl rfl rfl ?_
       refine AO.op (O.move rfl rfl) rfl rfl rfl ?_
       refine AO.op (O.move rfl rfl) rfl rfl rfl ?_
       refine AO.op (O.call rfl Tryz.func32 rfl rfl rfl (hlk)) rfl rfl rfl ?_
       refine AO.op (O.move rfl rfl) rfl rfl rfl ?_
       refine AO.op (O.extract rfl rfl rfl) rfl rfl rfl ?_
       refine AO.op (O.extract rfl rfl rfl) rfl rfl rfl ?_
       refine AO.opB (O.alloc rfl (by (dsimp only [List.set, List.append, List.cons_append, List.nil_append, roB_cells, roI_cells, roO_cells, stA, splice, ofConst, AV.cells, List.map, List.map_cons, List.map_nil, List.take, List.drop, Nat.zero_add, Nat.add_zero, Nat.reduceAdd, Nat.reduceMul, Nat.zero_mul, Value.cells, List.toList_toArray, zerosA, List.replicate, List.flatten, List.append_nil]; done)) (by rfl)) rfl rfl rfl ?_
       intro B10
       (refine AO.store (i := 0) rfl rfl rfl rfl rfl rfl (by rfl) (by rfl) (by rfl) (by (dsimp only [List.set, List.append, List.cons_append, List.nil_append, roB_cells, roI_cells, roO_cells, stA, splice, ofConst, AV.cells, List.map, List.map_cons, List.map_nil, List.take, List.drop, Nat.zero_add, Nat.add_zero, Nat.reduceAdd, Nat.reduceMul, Nat.zero_mul, Value.cells, List.toList_toArray, zerosA, List.replicate, List.flatten, List.append_nil]; done)) (by (dsimp only [List.set, List.append, List.cons_append, List.nil_append, roB_cells, roI_cells, roO_cells, stA, splice, ofConst, AV.cells, List.map, List.map_cons, List.map_nil, List.take, List.drop, Nat.zero_add, Nat.add_zero, Nat.reduceAdd, Nat.reduceMul, Nat.zero_mul, Value.cells, List.toList_toArray, zerosA, List.replicate, List.flatten, List.append_nil]; done)) ?_)
       refine AO.op (O.assign rfl rfl) rfl rfl rfl ?_
       refine AO.nil ?_
       refine AQ.thenN ?_
       refine AW.seq ?_
       refine AW.seq ?_
       refine AW.region ?_
       refine AO.op (O.move rfl rfl) rfl rfl rfl ?_
       refine AO.op (O.not rfl rfl (by rfl)) rfl rfl rfl ?_
       refine AO.nil ?_
       refine AQ.thenN ?_
       refine AW.condF rfl ?_
       have hlv : ([v] : List UInt8).length = 1 := rfl
       refine AW.skip ?_
       refine AQ.thenN ?_
       refine AW.seq ?_
       refine AW.seq ?_
       refine AW.region ?_
       refine AO.op (O.fieldAddr rfl rfl) rfl rfl rfl ?_
       refine AO.op (O.load rfl rfl (by repeat (exact List.Mem.head _)) (by rfl)) rfl rfl rfl ?_
       refine AO.op (O.lenR rfl rfl) rfl rfl rfl ?_
       refine AO.op (O.neq rfl rfl rfl (by exact bne_eq_false_iff_eq.2 (by omega))) rfl rfl rfl ?_
       refine AO.op (O.move rfl rfl) rfl rfl rfl ?_
       refine AO.op (O.move rfl rfl) rfl rfl rfl ?_
       refine AO.op (O.idxL rfl rfl rfl ⟨(by omega), (by omega)⟩) rfl rfl rfl ?_
       refine AO.op (O.load rfl rfl (by repeat (first | exact List.Mem.head _ | refine List.Mem.tail _ ?_)) (by rfl)) rfl rfl rfl ?_
       refine AO.op (O.gtr rfl rfl rfl (by exact bFalse (by omega))) rfl rfl rfl ?_
       refine AO.op (O.pickF rfl rfl rfl) rfl rfl rfl ?_
       refine AO.nil ?_
       refine AQ.thenN ?_
       refine AW.condF rfl ?_
       rcases (show ((v).toNat : Int) < s 0 ∨ ((v).toNat : Int) = s 0 by omega) with hlt | heq
       ·skip
        have hsn := hv2 hlt
        refine AW.g ?_
        refine G.openRow (v := V0) 4 rfl (by omega) (fun b' cap q1 q2 q3 q4 => ?_)
        refine AW.u ?_
        subst q4
        refine AW.g ?_
        dsimp only [List.set]
        refine AW.u ?_
        refine AW.skip ?_
        refine AQ.thenN ?_
        refine AW.seq ?_
        refine AW.region ?_
        refine AO.op (O.fieldAddr rfl rfl) rfl rfl rfl ?_
        refine AO.op (O.load rfl rfl (by repeat (exact List.Mem.head _)) (by rfl)) rfl rfl rfl ?_
        refine AO.op (O.idxR rfl rfl rfl ⟨(by omega), (by omega)⟩) rfl rfl rfl ?_
        refine AO.op (O.loadR rfl rfl (by rfl)) rfl rfl rfl ?_
        refine AO.op (O.conv rfl rfl (by exact wI64 (by omega))) rfl rfl rfl ?_
        refine AO.op (O.assign rfl rfl) rfl rfl rfl ?_
        refine AO.nil ?_
        refine AQ.thenN ?_
        refine AW.seq ?_
        refine AW.region ?_
        refine AO.op (O.move rfl rfl) rfl rfl rfl ?_
        refine AO.op (O.move rfl rfl) rfl rfl rfl ?_
        refine AO.op (O.idxL rfl rfl rfl ⟨(by omega), (by omega)⟩) rfl rfl rfl ?_
        refine AO.op (O.load rfl rfl (by repeat (first | exact List.Mem.head _ | refine List.Mem.tail _ ?_)) (by rfl)) rfl rfl rfl ?_
        refine AO.op (O.gtr rfl rfl rfl (by exact bFalse (by omega))) rfl rfl rfl ?_
        refine AO.op (O.move rfl rfl) rfl rfl rfl ?_
        refine AO.op (O.move rfl rfl) rfl rfl rfl ?_
        refine AO.op (O.move rfl rfl) rfl rfl rfl ?_
        refine AO.op (O.idxL rfl rfl rfl ⟨(by omega), (by omega)⟩) rfl rfl rfl ?_
        refine AO.op (O.load rfl rfl (by repeat (first | exact List.Mem.head _ | refine List.Mem.tail _ ?_)) (by rfl)) rfl rfl rfl ?_
        refine AO.op (O.lss rfl rfl rfl (by exact bTrue (by omega))) rfl rfl rfl ?_
        refine AO.op (O.move rfl rfl) rfl rfl rfl ?_
        refine AO.op (O.move rfl rfl) rfl rfl rfl ?_
        refine AO.op (O.idxL rfl rfl rfl ⟨(by omega), (by omega)⟩) rfl rfl rfl ?_
        refine AO.op (O.load rfl rfl (by repeat (first | exact List.Mem.head _ | refine List.Mem.tail _ ?_)) (by rfl)) rfl rfl rfl ?_
        refine AO.op (O.move rfl rfl) rfl rfl rfl ?_
        refine AO.op (O.add rfl rfl rfl (by exact wI64 (by omega))) rfl rfl rfl ?_
        refine AO.op (O.idxV rfl rfl rfl ⟨(by omega), (by omega)⟩) rfl rfl rfl ?_
        refine AO.op (O.load rfl rfl (by repeat (first | exact List.Mem.head _ | refine List.Mem.tail _ ?_)) (by exact roI_at (k := (v).toNat + 1) (by omega) (by omega))) rfl rfl rfl ?_
        refine AO.op (O.move rfl rfl) rfl rfl rfl ?_
        refine AO.op (O.sub rfl rfl rfl (by exact wI64 (by omega))) rfl rfl rfl ?_
        refine AO.op (O.leq rfl rfl rfl (by exact bFalse (by omega))) rfl rfl rfl ?_
        refine AO.op (O.pickT rfl rfl rfl) rfl rfl rfl ?_
        refine AO.op (O.pickF rfl rfl rfl) rfl rfl rfl ?_
        refine AO.nil ?_
        refine AQ.thenN ?_
        refine AW.condF rfl ?_
        refine AW.skip ?_
        refine AQ.blockN ?_
        refine AQ.blockN ?_
        refine AQ.g ?_
        refine G.closeRow (b := b') 4 rfl q3 rfl q1 q2 ?_
        refine AQ.u ?_
        refine AQ.g ?_
        dsimp only [List.set]
        refine AQ.u ?_
        refine AQ.loopKN _ _ _ (by omega) (⟨_, now2, _, s, L, _, V1, V2, b3, by omega, hc, hgl, hs.step hleft (by omega), hV0, hV1, hV2, rfl, rfl, rfl⟩) (by repeat (first | exact envNil | refine envCons rfl ?_)) (by repeat (first | exact envNil | refine envCons rfl ?_)) (by repeat (first | exact subPnil | refine subPcons 2 rfl ?_))
       ·skip
        refine AW.skip ?_
        refine AQ.thenN ?_
        refine AW.seq ?_
        refine AW.region ?_
        refine AO.op (O.fieldAddr rfl rfl) rfl rfl rfl ?_
        refine AO.op (O.load rfl rfl (by repeat (exact List.Mem.head _)) (by rfl)) rfl rfl rfl ?_
        refine AO.op (O.idxR rfl rfl rfl ⟨(by omega), (by omega)⟩) rfl rfl rfl ?_
        refine AO.op (O.loadR rfl rfl (by rfl)) rfl rfl rfl ?_
        refine AO.op (O.conv rfl rfl (by exact wI64 (by omega))) rfl rfl rfl ?_
        refine AO.op (O.assign rfl rfl) rfl rfl rfl ?_
        refine AO.nil ?_
        refine AQ.thenN ?_
        refine AW.seq ?_
        refine AW.region ?_
        refine AO.op (O.move rfl rfl) rfl rfl rfl ?_
        refine AO.op (O.move rfl rfl) rfl rfl rfl ?_
        refine AO.op (O.idxL rfl rfl rfl ⟨(by omega), (by omega)⟩) rfl rfl rfl ?_
        refine AO.op (O.load rfl rfl (by repeat (first | exact List.Mem.head _ | refine List.Mem.tail _ ?_)) (by rfl)) rfl rfl rfl ?_
        refine AO.op (O.gtr rfl rfl rfl (by exact bFalse (by omega))) rfl rfl rfl ?_
        refine AO.op (O.move rfl rfl) rfl rfl rfl ?_
        refine AO.op (O.move rfl rfl) rfl rfl rfl ?_
        refine AO.op (O.move rfl rfl) rfl rfl rfl ?_
        refine AO.op (O.idxL rfl rfl rfl ⟨(by omega), (by omega)⟩) rfl rfl rfl ?_
        refine AO.op (O.load rfl rfl (by repeat (first | exact List.Mem.head _ | refine List.Mem.tail _ ?_)) (by rfl)) rfl rfl rfl ?_
        refine AO.op (O.lss rfl rfl rfl (by exact bFalse (by omega))) rfl rfl rfl ?_
        refine AO.op (O.move rfl rfl) rfl rfl rfl ?_
        refine AO.no rfl rfl rfl ?_
        refine AO.no rfl rfl rfl ?_
        refine AO.no rfl rfl rfl ?_
        refine AO.no rfl rfl rfl ?_
        refine AO.no rfl rfl rfl ?_
        refine AO.no rfl rfl rfl ?_
        refine AO.no rfl rfl rfl ?_
        refine AO.no rfl rfl rfl ?_
        refine AO.no rfl rfl rfl ?_
        refine AO.no rfl rfl rfl ?_
        refine AO.op (O.pickF rfl rfl rfl) rfl rfl rfl ?_
        refine AO.op (O.pickF rfl rfl rfl) rfl rfl rfl ?_
        refine AO.nil ?_
        refine AQ.thenN ?_
        refine AW.condF rfl ?_
        refine AW.skip ?_
        refine AQ.blockN ?_
        refine AQ.blockN ?_
        refine AQ.loopKN _ _ _ (by omega) (⟨_, now2, _, s, L, V0, V1, V2, b3, by omega, hc, hgl, hs.step hleft (by omega), hV0, hV1, hV2, rfl, rfl, rfl⟩) (by repeat (first | exact envNil | refine envCons rfl ?_)) (by repeat (first | exact envNil | refine envCons rfl ?_)) (by repeat (first | exact subPnil | refine subPcons 2 rfl ?_))
       skip
      ·skip
       obtain ⟨v, hv⟩ : ∃ v, v = (cd c q).v := ⟨_, rfl⟩
       have hsr : COk (refC c q a now2) := hc.set hq rfl ⟨hcq.1, hcq.2.1, hn2, ha30⟩
       have hqr : q < (refC c q a now2).length := by rw [List.length_set]; exact hq
       have hpr := posC_at hsr hqr (k := 97) (by rw [cd_set hq]; exact hqk)
       have hlr := lookupT_fn _ 97 now2 _ hsr hpr hqr hn2 (by rw [cd_set hq]; exact ⟨Int.le_refl _, by show now2 - now2 < a; omega⟩) (v := v) (a := a - (now2 - now2)) (by rw [cd_set hq, hv]) (by rw [cd_set hq])
       have hsi : COk (c.set q (newC 97 (u8 (s 0)) a now2)) := hc.set hq hqk.symm ⟨.inl rfl, ha30, hn2, ha30⟩
       have hqi : q < (c.set q (newC 97 (u8 (s 0)) a now2)).length := by rw [List.length_set]; exact hq
       have hpi := posC_at hsi hqi (k := 97) (by rw [cd_set hq])
       have hli := lookupT_fn _ 97 now2 _ hsi hpi hqi hn2 (by rw [cd_set hq]; exact ⟨Int.le_refl _, by show now2 - now2 < a; omega⟩) (v := u8 (s 0)) (a := a - (now2 - now2)) (by rw [cd_set hq]) (by rw [cd_set hq])
       have hgi : GoodC s L now2 (c.set q (newC 97 (u8 (s 0)) a now2)) := hgl.set q (Int.le_refl _) (okC_new (k0 := 0) (by omega) rfl hu8)
       have htag : Sp Tryz.prog 33 [roCd c, roB (keyC 97)] [] (Is (.tup [roB [v], .val (.bool true)])) := by rw [hv]; exact tag1_fn c 97 q hc hp hq
       have href : Sp Tryz.prog 34 [roCd c, roB (keyC 97), aggM (fsC v a), .val (.int .i64 now2)] [] (Is (.tup [roCd (refC c q a now2), .val (.int .i64 0)])) := by rw [hv]; exact refresh_fn c 97 q a now2 hc hp hq ha30 hn2
       have hlv : ([v] : List UInt8).length = 1 := rfl
       refine AW.seq ?_
       refine AW.region ?_
       refine AO.op (O.move rfl rfl) rfl rfl rfl ?_
       refine AO.op (O.move rfl rfl) rfl rfl rfl ?_
       refine AO.op (O.move rfl rfl) rfl rfl rfl ?_
       refine AO.op (O.call rfl Tryz.func32 rfl rfl rfl (lookupF_fn c 97 now2 q hc hp hq hn2 hlive)) rfl rfl rfl ?_
       refine AO.op (O.move rfl rfl) rfl rfl rfl ?_
       refine AO.op (O.extract rfl rfl rfl) rfl rfl rfl ?_
       refine AO.op (O.extract rfl rfl rfl) rfl rfl rfl ?_
       refine AO.opB (O.alloc rfl (by (dsimp only [List.set, List.append, List.cons_append, List.nil_append, roB_cells, roI_cells, roO_cells, stA, splice, ofConst, AV.cells, List.map, List.map_cons, List.map_nil, List.take, List.drop, Nat.zero_add, Nat.add_zero, Nat.reduceAdd, Nat.reduceMul, Nat.zero_mul, Value.cells, List.toList_toArray, zerosA, List.replicate, List.flatten, List.append_nil]; done)) (by rfl)) rfl rfl rfl ?_
       intro B10
       (refine AO.store (i := 0) rfl rfl rfl rfl rfl rfl (by rfl) (by rfl) (by rfl) (by (dsimp only [List.set, List.append, List.cons_append, List.nil_append, roB_cells, roI_cells, roO_cells, stA, splice, ofConst, AV.cells, List.map, List.map_cons, List.map_nil, List.take, List.drop, Nat.zero_add, Nat.add_zero, Nat.reduceAdd, Nat.reduceMul, Nat.zero_mul, Value.cells, List.toList_toArray, zerosA, List.replicate, List.flatten, List.append_nil]; done)) (by (dsimp only [List.set, List.append, List.cons_append, List.nil_append, roB_cells, roI_cells, roO_cells, stA, splice, ofConst, AV.cells, List.map, List.map_cons, List.map_nil, List.take, List.drop, Nat.zero_add, Nat.add_zero, Nat.reduceAdd, Nat.reduceMul, Nat.zero_mul, Value.cells, List.toList_toArray, zerosA, List.replicate, List.flatten, List.append_nil]; done)) ?_)
       refine AO.op (O.assign rfl rfl) rfl rfl rfl ?_
       refine AO.nil ?_
       refine AQ.thenN ?_
       refine AW.seq ?_
       refine AW.seq ?_
       refine AW.region ?_
       refine AO.op (O.move rfl rfl) rfl rfl rfl ?_
       refine AO.op (O.not rfl rfl (by rfl)) rfl rfl rfl ?_
       refine AO.nil ?_
       refine AQ.thenN ?_
       refine AW.condT rfl ?_
       refine AW.seq ?_
       refine AW.region ?_
       refine AO.op (O.move rfl rfl) rfl rfl rfl ?_
       refine AO.op (O.move rfl rfl) rfl rfl rfl ?_
       refine AO.op (O.call rfl Tryz.func33 rfl rfl rfl (htag)) rfl rfl rfl ?_
       refine AO.op (O.move rfl rfl) rfl rfl rfl ?_
       refine AO.op (O.extract rfl rfl rfl) rfl rfl rfl ?_
       refine AO.op (O.extract rfl rfl rfl) rfl rfl rfl ?_
       refine AO.op (O.assign rfl rfl) rfl rfl rfl ?_
       refine AO.op (O.assign rfl rfl) rfl rfl rfl ?_
       refine AO.nil ?_
       refine AQ.thenN ?_
       refine AW.seq ?_
       refine AW.region ?_
       refine AO.op (O.move rfl rfl) rfl rfl rfl ?_
       (refine AO.callM1 (i := 7) rfl rfl Tryz.func13 rfl rfl rfl rfl rfl rfl (next_fn _ _ _ _ hl (by repeat (assumption)) (by omega) (by omega)) (by (dsimp only [List.set, List.append, List.cons_append, List.nil_append, roB_cells, roI_cells, roO_cells, stA, splice, ofConst, AV.cells, List.map, List.map_cons, List.map_nil, List.take, List.drop, Nat.zero_add, Nat.add_zero, Nat.reduceAdd, Nat.reduceMul, Nat.zero_mul, Value.cells, List.toList_toArray, zerosA, List.replicate, List.flatten, List.append_nil]; done)) ?_)
       refine AO.op (O.add rfl rfl rfl (by exact wI64 (by omega))) rfl rfl rfl ?_
       refine AO.op (O.assign rfl rfl) rfl rfl rfl ?_
       refine AO.g ?_
       refine G.re 16 (.val (.int .i64 a)) (congrArg (fun z => some (AV.val (.int .i64 z))) ha.symm) ?_
       refine AO.u ?_
       refine AO.nil ?_
       refine AQ.thenN ?_
       refine AW.seq ?_
       refine AW.regionD 17 (by kernel_rfl) (by kernel_rfl) ?_
       simp only [List.take_succ_cons, List.take_zero, List.drop_succ_cons, List.drop_zero]
       refine FA.op (O.move rfl rfl) rfl rfl rfl rfl ?_
       refine FA.op (O.idxL rfl rfl rfl ⟨(by omega), (by omega)⟩) rfl rfl rfl rfl ?_
       refine FA.op (O.load rfl rfl (by repeat (first | exact List.Mem.head _ | refine List.Mem.tail _ ?_)) (by rfl)) rfl rfl rfl rfl ?_
       refine FA.op (O.conv rfl rfl wU8any) rfl rfl rfl rfl ?_
       refine FA.op (OpW.frz (O.buildSlice rfl rfl rfl (by rfl) (by rfl) (by rfl) (by rfl)) (by (unfold maxLen; omega))) rfl rfl rfl rfl ?_
       refine FA.op (O.build rfl rfl rfl (by rfl)) rfl rfl rfl rfl ?_
       refine FA.op (O.move rfl rfl) rfl rfl rfl rfl ?_
       refine FA.op (O.idxL rfl rfl rfl ⟨(by omega), (by omega)⟩) rfl rfl rfl rfl ?_
       refine FA.op (O.load rfl rfl (by repeat (first | exact List.Mem.head _ | refine List.Mem.tail _ ?_)) (by rfl)) rfl rfl rfl rfl ?_
       refine FA.op (O.conv rfl rfl wU8any) rfl rfl rfl rfl ?_
       refine FA.op (OpW.frz (O.buildSlice rfl rfl rfl (by rfl) (by rfl) (by rfl) (by rfl)) (by (unfold maxLen; omega))) rfl rfl rfl rfl ?_
       refine FA.op (OpW.frz (O.buildSlice rfl rfl rfl (by rfl) (by rfl) (by rfl) (by rfl)) (by (unfold maxLen; omega))) rfl rfl rfl rfl ?_
       (refine FA.op (O.callC rfl Tryz.func15 rfl rfl rfl (setE_fn 69 [u8 (s 0)] (u8 (s 0)) (by simp)) (by (repeat (first | exact CoeL.nil | refine CoeL.cons Coe.rfl ?_ | refine CoeL.cons Coe.nil ?_ | refine CoeL.cons (Coe.agg ?_) ?_)); done)) rfl rfl rfl rfl ?_)
       refine FA.op (O.move rfl rfl) rfl rfl rfl rfl ?_
       refine FA.op (O.call rfl Tryz.func16 rfl rfl rfl (fromC_fn a (by omega))) rfl rfl rfl rfl ?_
       refine FA.op (OpW.frz (O.buildSlice rfl rfl rfl (by rfl) (by rfl) (by rfl) (by rfl)) (by (unfold maxLen; omega))) rfl rfl rfl rfl ?_
       refine FA.op (O.call rfl Tryz.func15 rfl rfl rfl (setA_fn 69 [u8 (s 0)] (u8 (s 0)) a (by simp))) rfl rfl rfl rfl ?_
       refine FA.nil ?_
       simp only [chosen, List.nil_append, List.cons_append, List.append_nil]
       (refine AO.store (i := 0) rfl rfl rfl rfl rfl rfl (by rfl) (by rfl) (by rfl) (by (dsimp only [List.set, List.append, List.cons_append, List.nil_append, roB_cells, roI_cells, roO_cells, stA, splice, ofConst, AV.cells, List.map, List.map_cons, List.map_nil, List.take, List.drop, Nat.zero_add, Nat.add_zero, Nat.reduceAdd, Nat.reduceMul, Nat.zero_mul, Value.cells, List.toList_toArray, zerosA, List.replicate, List.flatten, List.append_nil]; done)) (by (dsimp only [List.set, List.append, List.cons_append, List.nil_append, roB_cells, roI_cells, roO_cells, stA, splice, ofConst, AV.cells, List.map, List.map_cons, List.map_nil, List.take, List.drop, Nat.zero_add, Nat.add_zero, Nat.reduceAdd, Nat.reduceMul, Nat.zero_mul, Value.cells, List.toList_toArray, zerosA, List.replicate, List.flatten, List.append_nil]; done)) ?_)
       refine AO.nil ?_
       refine AQ.thenN ?_
       refine AW.seq ?_
       refine AW.seq ?_
       refine AW.regionD 16 (by kernel_rfl) (by kernel_rfl) ?_
       simp only [List.take_succ_cons, List.take_zero, List.drop_succ_cons, List.drop_zero]
       refine FA.op (O.move rfl rfl) rfl rfl rfl rfl ?_
       refine FA.op (O.move rfl rfl) rfl rfl rfl rfl ?_
       refine FA.op (O.move rfl rfl) rfl rfl rfl rfl ?_
       refine FA.op (O.lenR rfl rfl) rfl rfl rfl rfl ?_
       refine FA.op (O.eql rfl rfl rfl (by exact beq_iff_eq.2 (by omega))) rfl rfl rfl rfl ?_
       refine FA.op (O.pickT rfl rfl rfl) rfl rfl rfl rfl ?_
       refine FA.op (O.move rfl rfl) rfl rfl rfl rfl ?_
       refine FA.op (O.move rfl rfl) rfl rfl rfl rfl ?_
       refine FA.op (O.idxR rfl rfl rfl ⟨(by omega), (by omega)⟩) rfl rfl rfl rfl ?_
       refine FA.op (O.loadR rfl rfl (by rfl)) rfl rfl rfl rfl ?_
       refine FA.op (O.move rfl rfl) rfl rfl rfl rfl ?_
       refine FA.op (O.idxL rfl rfl rfl ⟨(by omega), (by omega)⟩) rfl rfl rfl rfl ?_
       refine FA.op (O.load rfl rfl (by repeat (first | exact List.Mem.head _ | refine List.Mem.tail _ ?_)) (by rfl)) rfl rfl rfl rfl ?_
       refine FA.op (O.conv rfl rfl wU8any) rfl rfl rfl rfl ?_
       refine FA.op (O.eql rfl rfl rfl (by rfl)) rfl rfl rfl rfl ?_
       refine FA.op (O.pickT rfl rfl rfl) rfl rfl rfl rfl ?_
       refine FA.nil ?_
       simp only [chosen, List.nil_append, List.cons_append, List.append_nil]
       refine AO.nil ?_
       refine AQ.thenN ?_
       refine AW.split rfl (fun heq => ?_) (fun heq => ?_) <;> (try simp only [decide_eq_true_eq, decide_eq_false_iff_not, beq_iff_eq, beq_eq_false_iff_ne, bne_iff_ne, bne_eq_false_iff_eq, Bool.not_eq_true', Bool.not_eq_false', Bool.not_eq_true, Bool.not_eq_false, ne_eq, Int.not_lt, Int.not_le, Bool.and_eq_true, Bool.or_eq_true, Bool.or_eq_false_iff, Bool.and_eq_false_imp, strOf_toList, Decidable.not_not] at heq)
       ·skip
        have hvs : (v.toNat : Int) = s 0 := by omega
        have hgr : GoodC s L now2 (refC c q a now2) := hgl.set q (Int.le_refl _) (okC_new (k0 := 0) (by omega) hqk (by show ((cd c q).v.toNat : Int) = s 0; rw [← hv]; exact hvs))
        refine AW.seq ?_
        refine AW.region ?_
        refine AO.op (O.move rfl rfl) rfl rfl rfl ?_
        refine AO.op (O.move rfl rfl) rfl rfl rfl ?_
        refine AO.op (O.build rfl rfl rfl (by rfl)) rfl rfl rfl ?_
        refine AO.op (O.move rfl rfl) rfl rfl rfl ?_
        refine AO.opB (O.buildSlice rfl rfl rfl (by rfl) (by rfl) (by rfl) (by rfl)) rfl rfl rfl ?_
        intro B11
        refine AO.g ?_
        (refine G.freezeSl 0 113 rfl rfl ⟨Nat.le_refl _, by unfold maxLen; omega⟩ ?_)
        refine G.unfull 113 rfl ?_
        refine AO.u ?_
        dsimp only [List.eraseIdx]
        (refine AO.op (O.callC rfl Tryz.func15 rfl rfl rfl (setE_fn 67 [] v (by simp)) (by (repeat (first | exact CoeL.nil | refine CoeL.cons Coe.rfl ?_ | refine CoeL.cons Coe.nil ?_ | refine CoeL.cons (Coe.agg ?_) ?_)); done)) rfl rfl rfl ?_)
        refine AO.op (O.move rfl rfl) rfl rfl rfl ?_
        refine AO.op (O.call rfl Tryz.func16 rfl rfl rfl (fromC_fn a (by omega))) rfl rfl rfl ?_
        refine AO.opB (O.buildSlice rfl rfl rfl (by rfl) (by rfl) (by rfl) (by rfl)) rfl rfl rfl ?_
        intro B12
        refine AO.g ?_
        (refine G.freezeSl 0 117 rfl rfl ⟨Nat.le_refl _, by unfold maxLen; omega⟩ ?_)
        refine G.unfull 117 rfl ?_
        refine AO.u ?_
        dsimp only [List.eraseIdx]
        refine AO.op (O.call rfl Tryz.func15 rfl rfl rfl (setA_fn 67 [] v a (by simp))) rfl rfl rfl ?_
        refine AO.op (O.move rfl rfl) rfl rfl rfl ?_
        refine AO.op (O.call rfl Tryz.func34 rfl rfl rfl (href)) rfl rfl rfl ?_
        refine AO.op (O.move rfl rfl) rfl rfl rfl ?_
        refine AO.op (O.extract rfl rfl rfl) rfl rfl rfl ?_
        refine AO.op (O.extract rfl rfl rfl) rfl rfl rfl ?_
        refine AO.op (O.assign rfl rfl) rfl rfl rfl ?_
        refine AO.op (O.assign rfl rfl) rfl rfl rfl ?_
        refine AO.nil ?_
        refine AQ.thenN ?_
        refine AW.seq ?_
        refine AW.seq ?_
        refine AW.region ?_
        refine AO.op (O.move rfl rfl) rfl rfl rfl ?_
        refine AO.op (O.neq rfl rfl rfl (by exact bne_eq_false_iff_eq.2 (by omega))) rfl rfl rfl ?_
        refine AO.nil ?_
        refine AQ.thenN ?_
        refine AW.condF rfl ?_
        refine AW.skip ?_
        refine AQ.thenN ?_
        refine AW.region ?_
        refine AO.op (O.move rfl rfl) rfl rfl rfl ?_
        refine AO.op (O.assign rfl rfl) rfl rfl rfl ?_
        refine AO.nil ?_
        refine AQ.thenN ?_
        refine AW.seq ?_
        refine AW.region ?_
        refine AO.op (O.move rfl rfl) rfl rfl rfl ?_
        refine AO.op (O.move rfl rfl) rfl rfl rfl ?_
        refine AO.op (O.move rfl rfl) rfl rfl rfl ?_
        refine AO.op (O.call rfl Tryz.func32 rfl rfl rfl (hlr)) rfl rfl rfl ?_
        refine AO.op (O.move rfl rfl) rfl rfl rfl ?_
        refine AO.op (O.extract rfl rfl rfl) rfl rfl rfl ?_
        refine AO.op (O.extract rfl rfl rfl) rfl rfl rfl ?_
        (refine AO.store (i := 0) rfl rfl rfl rfl rfl rfl (by rfl) (by rfl) (by rfl) (by (dsimp only [List.set, List.append, List.cons_append, List.nil_append, roB_cells, roI_cells, roO_cells, stA, splice, ofConst, AV.cells, List.map, List.map_cons, List.map_nil, List.take, List.drop, Nat.zero_add, Nat.add_zero, Nat.reduceAdd, Nat.reduceMul, Nat.zero_mul, Value.cells, List.toList_toArray, zerosA, List.replicate, List.flatten, List.append_nil]; done)) (by (dsimp only [List.set, List.append, List.cons_append, List.nil_append, roB_cells, roI_cells, roO_cells, stA, splice, ofConst, AV.cells, List.map, List.map_cons, List.map_nil, List.take, List.drop, Nat.zero_add, Nat.add_zero, Nat.reduceAdd, Nat.reduceMul, Nat.zero_mul, Value.cells, List.toList_toArray, zerosA, List.replicate, List.flatten, List.append_nil]; done)) ?_)
        refine AO.op (O.assign rfl rfl) rfl rfl rfl ?_
        refine AO.nil ?_
        refine AQ.thenN ?_
        refine AW.seq ?_
        refine AW.region ?_
        refine AO.op (O.move rfl rfl) rfl rfl rfl ?_
        refine AO.op (O.not rfl rfl (by rfl)) rfl rfl rfl ?_
        refine AO.nil ?_
        refine AQ.thenN ?_
        refine AW.condF rfl ?_
        have hlv : ([v] : List UInt8).length = 1 := rfl
        refine AW.skip ?_
        refine AQ.thenN ?_
        refine AW.seq ?_
        refine AW.seq ?_
        refine AW.region ?_
        refine AO.op (O.fieldAddr rfl rfl) rfl rfl rfl ?_
        refine AO.op (O.load rfl rfl (by repeat (exact List.Mem.head _)) (by rfl)) rfl rfl rfl ?_
        refine AO.op (O.lenR rfl rfl) rfl rfl rfl ?_
        refine AO.op (O.neq rfl rfl rfl (by exact bne_eq_false_iff_eq.2 (by omega))) rfl rfl rfl ?_
        refine AO.op (O.move rfl rfl) rfl rfl rfl ?_
        refine AO.op (O.move rfl rfl) rfl rfl rfl ?_
        refine AO.op (O.idxL rfl rfl rfl ⟨(by omega), (by omega)⟩) rfl rfl rfl ?_
        refine AO.op (O.load rfl rfl (by repeat (first | exact List.Mem.head _ | refine List.Mem.tail _ ?_)) (by rfl)) rfl rfl rfl ?_
        refine AO.op (O.gtr rfl rfl rfl (by exact bFalse (by omega))) rfl rfl rfl ?_
        refine AO.op (O.pickF rfl rfl rfl) rfl rfl rfl ?_
        refine AO.nil ?_
        refine AQ.thenN ?_
        refine AW.condF rfl ?_
        refine AW.skip ?_
        refine AQ.thenN ?_
        refine AW.seq ?_
        refine AW.region ?_
        refine AO.op (O.fieldAddr rfl rfl) rfl rfl rfl ?_
        refine AO.op (O.load rfl rfl (by repeat (exact List.Mem.head _)) (by rfl)) rfl rfl rfl ?_
        refine AO.op (O.idxR rfl rfl rfl ⟨(by omega), (by omega)⟩) rfl rfl rfl ?_
        refine AO.op (O.loadR rfl rfl (by rfl)) rfl rfl rfl ?_
        refine AO.op (O.conv rfl rfl (by exact wI64 (by omega))) rfl rfl rfl ?_
        refine AO.op (O.assign rfl rfl) rfl rfl rfl ?_
        refine AO.nil ?_
        refine AQ.thenN ?_
        refine AW.seq ?_
        refine AW.region ?_
        refine AO.op (O.move rfl rfl) rfl rfl rfl ?_
        refine AO.op (O.move rfl rfl) rfl rfl rfl ?_
        refine AO.op (O.idxL rfl rfl rfl ⟨(by omega), (by omega)⟩) rfl rfl rfl ?_
        refine AO.op (O.load rfl rfl (by repeat (first | exact List.Mem.head _ | refine List.Mem.tail _ ?_)) (by rfl)) rfl rfl rfl ?_
        refine AO.op (O.gtr rfl rfl rfl (by exact bFalse (by omega))) rfl rfl rfl ?_
        refine AO.op (O.move rfl rfl) rfl rfl rfl ?_
        refine AO.op (O.move rfl rfl) rfl rfl rfl ?_
        refine AO.op (O.move rfl rfl) rfl rfl rfl ?_
        refine AO.op (O.idxL rfl rfl rfl ⟨(by omega), (by omega)⟩) rfl rfl rfl ?_
        refine AO.op (O.load rfl rfl (by repeat (first | exact List.Mem.head _ | refine List.Mem.tail _ ?_)) (by rfl)) rfl rfl rfl ?_
        refine AO.op (O.lss rfl rfl rfl (by exact bFalse (by omega))) rfl rfl rfl ?_
        refine AO.op (O.move rfl rfl) rfl rfl rfl ?_
        refine AO.no rfl rfl rfl ?_
        refine AO.no rfl rfl rfl ?_
        refine AO.no rfl rfl rfl ?_
        refine AO.no rfl rfl rfl ?_
        refine AO.no rfl rfl rfl ?_
        refine AO.no rfl rfl rfl ?_
        refine AO.no rfl rfl rfl ?_
        refine AO.no rfl rfl rfl ?_
        refine AO.no rfl rfl rfl ?_
        refine AO.no rfl rfl rfl ?_
        refine AO.op (O.pickF rfl rfl rfl) rfl rfl rfl ?_
        refine AO.op (O.pickF rfl rfl rfl) rfl rfl rfl ?_
        refine AO.nil ?_
        refine AQ.thenN ?_
        refine AW.condF rfl ?_
        refine AW.skip ?_
        refine AQ.blockN ?_
        refine AQ.blockN ?_
        refine AQ.loopKN _ _ _ (by omega) (⟨_, now2, _, s, L, V0, V1, V2, b4, by omega, hsr, hgr, hs.step hleft (by omega), hV0, hV1, hV2, rfl, rfl, rfl⟩) (by repeat (first | exact envNil | refine envCons rfl ?_)) (by repeat (first | exact envNil | refine envCons rfl ?_)) (by repeat (first | exact subPnil | refine subPcons 2 rfl ?_))
       ·skip
        refine AW.seq ?_
        refine AW.region ?_
        refine AO.op (O.move rfl rfl) rfl rfl rfl ?_
        refine AO.op (O.move rfl rfl) rfl rfl rfl ?_
        (refine AO.op (O.loadK rfl rfl (by repeat (exact List.Mem.head _)) (by (dsimp only [List.set, List.append, List.cons_append, List.nil_append, roB_cells, roI_cells, roO_cells, stA, splice, ofConst, AV.cells, List.map, List.map_cons, List.map_nil, List.take, List.drop, Nat.zero_add, Nat.add_zero, Nat.reduceAdd, Nat.reduceMul, Nat.zero_mul, Value.cells, List.toList_toArray, zerosA, List.replicate, List.flatten, List.append_nil]; done)) (by rfl)) rfl rfl rfl ?_)
        refine AO.op (O.move rfl rfl) rfl rfl rfl ?_
        refine AO.op (O.call rfl Tryz.func35 rfl rfl rfl (insert1_fn c 97 (u8 (s 0)) q a now2 hc hp hq ha30 hn2)) rfl rfl rfl ?_
        refine AO.op (O.move rfl rfl) rfl rfl rfl ?_
        refine AO.op (O.extract rfl rfl rfl) rfl rfl rfl ?_
        refine AO.op (O.extract rfl rfl rfl) rfl rfl rfl ?_
        refine AO.op (O.assign rfl rfl) rfl rfl rfl ?_
        refine AO.op (O.assign rfl rfl) rfl rfl rfl ?_
        refine AO.nil ?_
        refine AQ.thenN ?_
        refine AW.seq ?_
        refine AW.seq ?_
        refine AW.region ?_
        refine AO.op (O.move rfl rfl) rfl rfl rfl ?_
        refine AO.op (O.neq rfl rfl rfl (by exact bne_eq_false_iff_eq.2 (by omega))) rfl rfl rfl ?_
        refine AO.nil ?_
        refine AQ.thenN ?_
        refine AW.condF rfl ?_
        refine AW.skip ?_
        refine AQ.thenN ?_
        refine AW.region ?_
        refine AO.op (O.move rfl rfl) rfl rfl rfl ?_
        refine AO.op (O.assign rfl rfl) rfl rfl rfl ?_
        refine AO.nil ?_
        refine AQ.thenN ?_
        refine AW.seq ?_
        refine AW.region ?_
        refine AO.op (O.move rfl rfl) rfl rfl rfl ?_
        refine AO.op (O.move rfl rfl) rfl rfl rfl ?_
        refine AO.op (O.move rfl rfl) rfl rfl rfl ?_
        refine AO.op (O.call rfl Tryz.func32 rfl rfl rfl (hli)) rfl rfl rfl ?_
        refine AO.op (O.move rfl rfl) rfl rfl rfl ?_
        refine AO.op (O.extract rfl rfl rfl) rfl rfl rfl ?_
        refine AO.op (O.extract rfl rfl rfl) rfl rfl rfl ?_
        (refine AO.store (i := 0) rfl rfl rfl rfl rfl rfl (by rfl) (by rfl) (by rfl) (by (dsimp only [List.set, List.append, List.cons_append, List.nil_append, roB_cells, roI_cells, roO_cells, stA, splice, ofConst, AV.cells, List.map, List.map_cons, List.map_nil, List.take, List.drop, Nat.zero_add, Nat.add_zero, Nat.reduceAdd, Nat.reduceMul, Nat.zero_mul, Value.cells, List.toList_toArray, zerosA, List.replicate, List.flatten, List.append_nil]; done)) (by (dsimp only [List.set, List.append, List.cons_append, List.nil_append, roB_cells, roI_cells, roO_cells, stA, splice, ofConst, AV.cells, List.map, List.map_cons, List.map_nil, List.take, List.drop, Nat.zero_add, Nat.add_zero, Nat.reduceAdd, Nat.reduceMul, Nat.zero_mul, Value.cells, List.toList_toArray, zerosA, List.replicate, List.flatten, List.append_nil]; done)) ?_)
        refine AO.op (O.assign rfl rfl) rfl rfl rfl ?_
        refine AO.nil ?_
        refine AQ.thenN ?_
        refine AW.seq ?_
        refine AW.region ?_
        refine AO.op (O.move rfl rfl) rfl rfl rfl ?_
        refine AO.op (O.not rfl rfl (by rfl)) rfl rfl rfl ?_
        refine AO.nil ?_
        refine AQ.thenN ?_
        refine AW.condF rfl ?_
        have hlv : ([u8 (s 0)] : List UInt8).length = 1 := rfl
        refine AW.skip ?_
        refine AQ.thenN ?_
        refine AW.seq ?_
        refine AW.seq ?_
        refine AW.region ?_
        refine AO.op (O.fieldAddr rfl rfl) rfl rfl rfl ?_
        refine AO.op (O.load rfl rfl (by repeat (exact List.Mem.head _)) (by rfl)) rfl rfl rfl ?_
        refine AO.op (O.lenR rfl rfl) rfl rfl rfl ?_
        refine AO.op (O.neq rfl rfl rfl (by exact bne_eq_false_iff_eq.2 (by omega))) rfl rfl rfl ?_
        refine AO.op (O.move rfl rfl) rfl rfl rfl ?_
        refine AO.op (O.move rfl rfl) rfl rfl rfl ?_
        refine AO.op (O.idxL rfl rfl rfl ⟨(by omega), (by omega)⟩) rfl rfl rfl ?_
        refine AO.op (O.load rfl rfl (by repeat (first | exact List.Mem.head _ | refine List.Mem.tail _ ?_)) (by rfl)) rfl rfl rfl ?_
        refine AO.op (O.gtr rfl rfl rfl (by exact bFalse (by omega))) rfl rfl rfl ?_
        refine AO.op (O.pickF rfl rfl rfl) rfl rfl rfl ?_
        refine AO.nil ?_
        refine AQ.thenN ?_
        refine AW.condF rfl ?_
        refine AW.skip ?_
        refine AQ.thenN ?_
        refine AW.seq ?_
        refine AW.region ?_
        refine AO.op (O.fieldAddr rfl rfl) rfl rfl rfl ?_
        refine AO.op (O.load rfl rfl (by repeat (exact List.Mem.head _)) (by rfl)) rfl rfl rfl ?_
        refine AO.op (O.idxR rfl rfl rfl ⟨(by omega), (by omega)⟩) rfl rfl rfl ?_
        refine AO.op (O.loadR rfl rfl (by rfl)) rfl rfl rfl ?_
        refine AO.op (O.conv rfl rfl (by exact wI64 (by omega))) rfl rfl rfl ?_
        refine AO.op (O.assign rfl rfl) rfl rfl rfl ?_
        refine AO.nil ?_
        refine AQ.thenN ?_
        refine AW.seq ?_
        refine AW.region ?_
        refine AO.op (O.move rfl rfl) rfl rfl rfl ?_
        refine AO.op (O.move rfl rfl) rfl rfl rfl ?_
        refine AO.op (O.idxL rfl rfl rfl ⟨(by omega), (by omega)⟩) rfl rfl rfl ?_
        refine AO.op (O.load rfl rfl (by repeat (first | exact List.Mem.head _ | refine List.Mem.tail _ ?_)) (by rfl)) rfl rfl rfl ?_
        refine AO.op (O.gtr rfl rfl rfl (by exact bFalse (by omega))) rfl rfl rfl ?_
        refine AO.op (O.move rfl rfl) rfl rfl rfl ?_
        refine AO.op (O.move rfl rfl) rfl rfl rfl ?_
        refine AO.op (O.move rfl rfl) rfl rfl rfl ?_
        refine AO.op (O.idxL rfl rfl rfl ⟨(by omega), (by omega)⟩) rfl rfl rfl ?_
        refine AO.op (O.load rfl rfl (by repeat (first | exact List.Mem.head _ | refine List.Mem.tail _ ?_)) (by rfl)) rfl rfl rfl ?_
        refine AO.op (O.lss rfl rfl rfl (by exact bFalse (by omega))) rfl rfl rfl ?_
        refine AO.op (O.move rfl rfl) rfl rfl rfl ?_
        refine AO.no rfl rfl rfl ?_
        refine AO.no rfl rfl rfl ?_
        refine AO.no rfl rfl rfl ?_
        refine AO.no rfl rfl rfl ?_
        refine AO.no rfl rfl rfl ?_
        refine AO.no rfl rfl rfl ?_
        refine AO.no rfl rfl rfl ?_
        refine AO.no rfl rfl rfl ?_
        refine AO.no rfl rfl rfl ?_
        refine AO.no rfl rfl rfl ?_
        refine AO.op (O.pickF rfl rfl rfl) rfl rfl rfl ?_
        refine AO.op (O.pickF rfl rfl rfl) rfl rfl rfl ?_
        refine AO.nil ?_
        refine AQ.thenN ?_
        refine AW.condF rfl ?_
        refine AW.skip ?_
        refine AQ.blockN ?_
        refine AQ.blockN ?_
        refine AQ.loopKN _ _ _ (by omega) (⟨_, now2, _, s, L, V0, V1, V2, b4, by omega, hsi, hgi, hs.step hleft (by omega), hV0, hV1, hV2, rfl, rfl, rfl⟩) (by repeat (first | exact envNil | refine envCons rfl ?_)) (by repeat (first | exact envNil | refine envCons rfl ?_)) (by repeat (first | exact subPnil | refine subPcons 2 rfl ?_))
      skip
     skip
   ·skip
    obtain ⟨sk, hsk⟩ : ∃ sk, sk = s 1 := ⟨_, rfl⟩
    obtain ⟨hs0, hs4, hsl⟩ := hs 1 (by omega)
    have hs75 : s 1 ≤ 75 := by omega
    refine AW.skip ?_
    refine AQ.thenN ?_
    refine AW.block ?_
    refine AW.seq ?_
    refine AW.region ?_
    refine AO.op (O.move rfl rfl) rfl rfl rfl ?_
    refine AO.op (O.move rfl rfl) rfl rfl rfl ?_
    (refine AO.callM1 (i := 5) rfl rfl Tryz.func13 rfl rfl rfl rfl rfl rfl (next_fn _ _ _ _ hl (by repeat (assumption)) (by omega) (by omega)) (by (dsimp only [List.set, List.append, List.cons_append, List.nil_append, roB_cells, roI_cells, roO_cells, stA, splice, ofConst, AV.cells, List.map, List.map_cons, List.map_nil, List.take, List.drop, Nat.zero_add, Nat.add_zero, Nat.reduceAdd, Nat.reduceMul, Nat.zero_mul, Value.cells, List.toList_toArray, zerosA, List.replicate, List.flatten, List.append_nil]; done)) ?_)
    refine AO.op (O.add rfl rfl rfl (by exact wI64 (by omega))) rfl rfl rfl ?_
    refine AO.op (O.assign rfl rfl) rfl rfl rfl ?_
    refine AO.g ?_
    refine G.re 5 (.val (.int .i64 now2)) (congrArg (fun z => some (AV.val (.int .i64 z))) hnow2.symm) ?_
    refine AO.u ?_
    refine AO.nil ?_
    refine AQ.thenN ?_
    refine AW.seq ?_
    refine AW.region ?_
    refine AO.op (O.move rfl rfl) rfl rfl rfl ?_
    (refine AO.callM1 (i := 5) rfl rfl Tryz.func13 rfl rfl rfl rfl rfl rfl (next_fn _ _ _ _ hl (by repeat (first | assumption | refine adv_le' ?_)) (by omega) (by omega)) (by (dsimp only [List.set, List.append, List.cons_append, List.nil_append, roB_cells, roI_cells, roO_cells, stA, splice, ofConst, AV.cells, List.map, List.map_cons, List.map_nil, List.take, List.drop, Nat.zero_add, Nat.add_zero, Nat.reduceAdd, Nat.reduceMul, Nat.zero_mul, Value.cells, List.toList_toArray, zerosA, List.replicate, List.flatten, List.append_nil]; done)) ?_)
    refine AO.op (O.assign rfl rfl) rfl rfl rfl ?_
    refine AO.g ?_
    refine G.re 8 (.val (.int .i64 1)) (congrArg (fun z => some (AV.val (.int .i64 z))) h3) ?_
    refine AO.u ?_
    refine AO.nil ?_
    refine AQ.thenN ?_
    refine AW.seq ?_
    refine AW.region ?_
    refine AO.op (O.build rfl rfl rfl (by rfl)) rfl rfl rfl ?_
    refine AO.op (O.move rfl rfl) rfl rfl rfl ?_
    refine AO.op (O.add rfl rfl rfl (by exact wI64 (by omega))) rfl rfl rfl ?_
    refine AO.op (O.conv rfl rfl (by rfl)) rfl rfl rfl ?_
    refine AO.op (O.runeS rfl rfl rfl) rfl rfl rfl ?_
    refine AO.g ?_
    refine G.re 46 (.val (.string (sC 98))) (congrArg (fun z => some (AV.val (.string z))) (by decide +kernel)) ?_
    refine AO.u ?_
    refine AO.op (O.addS rfl rfl rfl (by decide) (by rfl)) rfl rfl rfl ?_
    refine AO.g ?_
    refine G.re 47 (.val (.string (pC 98))) (congrArg (fun z => some (AV.val (.string z))) (by decide +kernel)) ?_
    refine AO.u ?_
    (refine AO.op (O.callC rfl Tryz.func29 rfl rfl rfl (setpath_fn 98 (.inr (.inl rfl))) (by (repeat (first | exact CoeL.nil | refine CoeL.cons Coe.rfl ?_ | refine CoeL.cons Coe.nil ?_ | refine CoeL.cons (Coe.agg ?_) ?_)); done)) rfl rfl rfl ?_)
    refine AO.op (O.move rfl rfl) rfl rfl rfl ?_
    refine AO.op (O.extract rfl rfl rfl) rfl rfl rfl ?_
    refine AO.op (O.extract rfl rfl rfl) rfl rfl rfl ?_
    refine AO.opB (O.alloc rfl (by (dsimp only [List.set, List.append, List.cons_append, List.nil_append, roB_cells, roI_cells, roO_cells, stA, splice, ofConst, AV.cells, List.map, List.map_cons, List.map_nil, List.take, List.drop, Nat.zero_add, Nat.add_zero, Nat.reduceAdd, Nat.reduceMul, Nat.zero_mul, Value.cells, List.toList_toArray, zerosA, List.replicate, List.flatten, List.append_nil]; done)) (by rfl)) rfl rfl rfl ?_
    intro B7
    (refine AO.store (i := 0) rfl rfl rfl rfl rfl rfl (by rfl) (by rfl) (by rfl) (by (dsimp only [List.set, List.append, List.cons_append, List.nil_append, roB_cells, roI_cells, roO_cells, stA, splice, ofConst, AV.cells, List.map, List.map_cons, List.map_nil, List.take, List.drop, Nat.zero_add, Nat.add_zero, Nat.reduceAdd, Nat.reduceMul, Nat.zero_mul, Value.cells, List.toList_toArray, zerosA, List.replicate, List.flatten, List.append_nil]; done)) (by (dsimp only [List.set, List.append, List.cons_append, List.nil_append, roB_cells, roI_cells, roO_cells, stA, splice, ofConst, AV.cells, List.map, List.map_cons, List.map_nil, List.take, List.drop, Nat.zero_add, Nat.add_zero, Nat.reduceAdd, Nat.reduceMul, Nat.zero_mul, Value.cells, List.toList_toArray, zerosA, List.replicate, List.flatten, List.append_nil]; done)) ?_)
    refine AO.op (O.assign rfl rfl) rfl rfl rfl ?_
    refine AO.nil ?_
    refine AQ.thenN ?_
    refine AW.seq ?_
    refine AW.seq ?_
    refine AW.region ?_
    refine AO.op (O.move rfl rfl) rfl rfl rfl ?_
    refine AO.op (O.neq rfl rfl rfl (by exact bne_eq_false_iff_eq.2 (by omega))) rfl rfl rfl ?_
    refine AO.nil ?_
    refine AQ.thenN ?_
    refine AW.condF rfl ?_
    refine AW.skip ?_
    refine AQ.thenN ?_
    refine AW.seq ?_
    refine AW.region ?_
    (refine AO.op (O.loadK rfl rfl (by repeat (exact List.Mem.head _)) (by (dsimp only [List.set, List.append, List.cons_append, List.nil_append, roB_cells, roI_cells, roO_cells, stA, splice, ofConst, AV.cells, List.map, List.map_cons, List.map_nil, List.take, List.drop, Nat.zero_add, Nat.add_zero, Nat.reduceAdd, Nat.reduceMul, Nat.zero_mul, Value.cells, List.toList_toArray, zerosA, List.replicate, List.flatten, List.append_nil]; done)) (by rfl)) rfl rfl rfl ?_)
    refine AO.op (O.call rfl Tryz.func30 rfl rfl rfl (cachekey_fn 98)) rfl rfl rfl ?_
    refine AO.op (O.assign rfl rfl) rfl rfl rfl ?_
    refine AO.nil ?_
    refine AQ.thenN ?_
    refine AW.seq ?_
    refine AW.region ?_
    refine AO.op (O.move rfl rfl) rfl rfl rfl ?_
    (refine AO.callM1 (i := 6) rfl rfl Tryz.func13 rfl rfl rfl rfl rfl rfl (next_fn _ _ _ _ hl (by repeat (assumption)) (by omega) (by omega)) (by (dsimp only [List.set, List.append, List.cons_append, List.nil_append, roB_cells, roI_cells, roO_cells, stA, splice, ofConst, AV.cells, List.map, List.map_cons, List.map_nil, List.take, List.drop, Nat.zero_add, Nat.add_zero, Nat.reduceAdd, Nat.reduceMul, Nat.zero_mul, Value.cells, List.toList_toArray, zerosA, List.replicate, List.flatten, List.append_nil]; done)) ?_)
    refine AO.nil ?_
    refine AQ.thenN ?_
    refine AW.block ?_
    refine AW.seq ?_
    refine AW.region ?_
    refine AO.op (O.eql rfl rfl rfl (by rfl)) rfl rfl rfl ?_
    refine AO.op (O.assign rfl rfl) rfl rfl rfl ?_
    refine AO.nil ?_
    refine AQ.thenN ?_
    refine AW.split rfl (fun h0 => ?_) (fun h0 => ?_) <;> (try simp only [decide_eq_true_eq, decide_eq_false_iff_not, beq_iff_eq, beq_eq_false_iff_ne, bne_iff_ne, bne_eq_false_iff_eq, Bool.not_eq_true', Bool.not_eq_false', Bool.not_eq_true, Bool.not_eq_false, ne_eq, Int.not_lt, Int.not_le, Bool.and_eq_true, Bool.or_eq_true, Bool.or_eq_false_iff, Bool.and_eq_false_imp, strOf_toList, Decidable.not_not] at h0)
    ·skip
     have hup := hgl.up (k0 := 1) hs0 hsl
     have hsu := hs.up (now2 := now2) hleft (kk2 := adv l (adv l (adv l (adv l kk)))) h44 1 now2
     have hL1 : (updP L 1 (L 1 ++ [now2]) 1).length = (L 1).length + 1 := by rw [updP_eq]; simp
     have hL2 : intsA .i64 (updP L 1 (L 1 ++ [now2]) 1) = intsA .i64 (L 1) ++ [.val (.int .i64 now2)] := by rw [updP_eq]; simp [intsA]
     refine AW.seq ?_
     refine AW.region ?_
     refine AO.op (O.move rfl rfl) rfl rfl rfl ?_
     refine AO.op (O.idxL rfl rfl rfl ⟨(by omega), (by omega)⟩) rfl rfl rfl ?_
     refine AO.op (O.load rfl rfl (by repeat (first | exact List.Mem.head _ | refine List.Mem.tail _ ?_)) (by rfl)) rfl rfl rfl ?_
     refine AO.op (O.add rfl rfl rfl (by exact wI64 (by omega))) rfl rfl rfl ?_
     refine AO.op (O.idxL rfl rfl rfl ⟨(by omega), (by omega)⟩) rfl rfl rfl ?_
     (refine AO.store (i := 2) rfl rfl rfl rfl rfl rfl (by rfl) (by rfl) (by rfl) (by (dsimp only [List.set, List.append, List.cons_append, List.nil_append, roB_cells, roI_cells, roO_cells, stA, splice, ofConst, AV.cells, List.map, List.map_cons, List.map_nil, List.take, List.drop, Nat.zero_add, Nat.add_zero, Nat.reduceAdd, Nat.reduceMul, Nat.zero_mul, Value.cells, List.toList_toArray, zerosA, List.replicate, List.flatten, List.append_nil]; done)) (by (dsimp only [List.set, List.append, List.cons_append, List.nil_append, roB_cells, roI_cells, roO_cells, stA, splice, ofConst, AV.cells, List.map, List.map_cons, List.map_nil, List.take, List.drop, Nat.zero_add, Nat.add_zero, Nat.reduceAdd, Nat.reduceMul, Nat.zero_mul, Value.cells, List.toList_toArray, zerosA, List.replicate, List.flatten, List.append_nil]; done)) ?_)
     refine AO.nil ?_
     refine AQ.thenN ?_
     refine AW.seq ?_
     refine AW.region ?_
     refine AO.op (O.move rfl rfl) rfl rfl rfl ?_
     refine AO.op (O.move rfl rfl) rfl rfl rfl ?_
     refine AO.op (O.idxL rfl rfl rfl ⟨(by omega), (by omega)⟩) rfl rfl rfl ?_
     refine AO.op (O.load rfl rfl (by repeat (first | exact List.Mem.head _ | refine List.Mem.tail _ ?_)) (by rfl)) rfl rfl rfl ?_
     refine AO.op (O.move rfl rfl) rfl rfl rfl ?_
     refine AO.opB (O.buildSlice rfl rfl rfl (by rfl) (by rfl) (by rfl) (by rfl)) rfl rfl rfl ?_
     intro B8
     refine AO.g ?_
     (refine G.freezeSl 0 201 rfl rfl ⟨Nat.le_refl _, by unfold maxLen; omega⟩ ?_)
     refine G.unfull 201 rfl ?_
     refine AO.u ?_
     dsimp only [List.eraseIdx]
     (refine AO.append' (i := 4) rfl rfl rfl rfl (by rfl) (by rfl) rfl rfl rfl (by exact SrcA.ro TyD.ax (by rfl) (Nat.le_of_ble_eq_true rfl)) (by rfl) (by (unfold maxLen; omega)) (by omega) (by (dsimp only [List.set, List.append, List.cons_append, List.nil_append, roB_cells, roI_cells, roO_cells, stA, splice, ofConst, AV.cells, List.map, List.map_cons, List.map_nil, List.take, List.drop, Nat.zero_add, Nat.add_zero, Nat.reduceAdd, Nat.reduceMul, Nat.zero_mul, Value.cells, List.toList_toArray, zerosA, List.replicate, List.flatten, List.append_nil]; done)) (fun _ => by (dsimp only [List.set]; done)) ?_)
     intro V9 hV9
     refine AO.op (O.idxL rfl rfl rfl ⟨(by omega), (by omega)⟩) rfl rfl rfl ?_
     (refine AO.store (i := 1) rfl rfl rfl rfl rfl rfl (by (simp [AV.cells, AV.one, *]; done)) (by rfl) (by rfl) (by (dsimp only [List.set, List.append, List.cons_append, List.nil_append, roB_cells, roI_cells, roO_cells, stA, splice, ofConst, AV.cells, List.map, List.map_cons, List.map_nil, List.take, List.drop, Nat.zero_add, Nat.add_zero, Nat.reduceAdd, Nat.reduceMul, Nat.zero_mul, Value.cells, List.toList_toArray, zerosA, List.replicate, List.flatten, List.append_nil]; done)) (by (dsimp only [List.set, List.append, List.cons_append, List.nil_append, roB_cells, roI_cells, roO_cells, stA, splice, ofConst, AV.cells, List.map, List.map_cons, List.map_nil, List.take, List.drop, Nat.zero_add, Nat.add_zero, Nat.reduceAdd, Nat.reduceMul, Nat.zero_mul, Value.cells, List.toList_toArray, zerosA, List.replicate, List.flatten, List.append_nil]; done)) ?_)
     refine AO.nil ?_
     refine AQ.thenN ?_
     refine AW.seq ?_
     refine AW.region ?_
     refine AO.op (O.move rfl rfl) rfl rfl rfl ?_
     (refine AO.callM1 (i := 6) rfl rfl Tryz.func13 rfl rfl rfl rfl rfl rfl (next_fn _ _ _ _ hl (by repeat (assumption)) (by omega) (by omega)) (by (dsimp only [List.set, List.append, List.cons_append, List.nil_append, roB_cells, roI_cells, roO_cells, stA, splice, ofConst, AV.cells, List.map, List.map_cons, List.map_nil, List.take, List.drop, Nat.zero_add, Nat.add_zero, Nat.reduceAdd, Nat.reduceMul, Nat.zero_mul, Value.cells, List.toList_toArray, zerosA, List.replicate, List.flatten, List.append_nil]; done)) ?_)
     refine AO.op (O.eql rfl rfl rfl (by rfl)) rfl rfl rfl ?_
     refine AO.nil ?_
     refine AQ.thenN ?_
     refine AW.split rfl (fun hr => ?_) (fun hr => ?_) <;> (try simp only [decide_eq_true_eq, decide_eq_false_iff_not, beq_iff_eq, beq_eq_false_iff_ne, bne_iff_ne, bne_eq_false_iff_eq, Bool.not_eq_true', Bool.not_eq_false', Bool.not_eq_true, Bool.not_eq_false, ne_eq, Int.not_lt, Int.not_le, Bool.and_eq_true, Bool.or_eq_true, Bool.or_eq_false_iff, Bool.and_eq_false_imp, strOf_toList, Decidable.not_not] at hr)
     ·skip
      refine AW.region ?_
      refine AO.op (O.move rfl rfl) rfl rfl rfl ?_
      refine AO.op (O.move rfl rfl) rfl rfl rfl ?_
      (refine AO.op (O.call rfl Tryz.func31 rfl rfl rfl (remove_fn c 98 (by have := hc.len; omega))) rfl rfl rfl ?_)
      refine AO.op (O.assign rfl rfl) rfl rfl rfl ?_
      refine AO.nil ?_
      refine AQ.blockN ?_
      refine AQ.blockN ?_
      rw [← hL1, ← hL2]
      refine AQ.loopKN _ _ _ (by omega) (⟨_, now2, _, updP s 1 (s 1 + 1), updP L 1 (L 1 ++ [now2]), V0, _, V2, b4, by omega, hc.rem _, hup.sub (fun e he => (List.mem_filter.1 he).1), hsu, hV0, ‹_›, hV2, rfl, rfl, rfl⟩) (by repeat (first | exact envNil | refine envCons rfl ?_)) (by repeat (first | exact envNil | refine envCons rfl ?_)) (by repeat (first | exact subPnil | refine subPcons 1 rfl ?_))
     ·skip
      refine AW.skip ?_
      refine AQ.blockN ?_
      refine AQ.blockN ?_
      rw [← hL1, ← hL2]
      refine AQ.loopKN _ _ _ (by omega) (⟨_, now2, _, updP s 1 (s 1 + 1), updP L 1 (L 1 ++ [now2]), V0, _, V2, b4, by omega, hc, hup, hsu, hV0, ‹_›, hV2, rfl, rfl, rfl⟩) (by repeat (first | exact envNil | refine envCons rfl ?_)) (by repeat (first | exact envNil | refine envCons rfl ?_)) (by repeat (first | exact subPnil | refine subPcons 1 rfl ?_))
    ·skip
     have hz5 := nxt_in l (adv l (adv l (adv l kk))) (n := 30) (by omega)
     obtain ⟨a, ha⟩ : ∃ a, a = 1 + nxt l (adv l (adv l (adv l kk))) 30 := ⟨_, rfl⟩
     have ha30 : 1 ≤ a ∧ a ≤ 30 := by omega
     have hu8 : ((u8 (s 1)).toNat : Int) = s 1 := by rw [u8_nat]; omega
     rcases posC_cases c 98 with ⟨hp, hno⟩ | ⟨q, hq, hp, hk⟩
     ·skip
      have hcok : COk (c ++ [newC 98 (u8 (s 1)) a now2]) := hc.add hno ⟨.inr (.inl rfl), ha30, hn2, ha30⟩
      have hgok : GoodC s L now2 (c ++ [newC 98 (u8 (s 1)) a now2]) := hgl.add (Int.le_refl _) (okC_new (k0 := 1) (by omega) rfl hu8)
      have hql : c.length < (c ++ [newC 98 (u8 (s 1)) a now2]).length := by simp
      have hpq := posC_at hcok hql (k := 98) (by rw [cd_add])
      have hlk := lookupT_fn _ 98 now2 _ hcok hpq hql hn2 (by rw [cd_add]; exact ⟨Int.le_refl _, by show now2 - now2 < a; omega⟩) (v := u8 (s 1)) (a := a - (now2 - now2)) (by rw [cd_add]) (by rw [cd_add])
      have hv1 : ((u8 (s 1)).toNat : Int) ≤ s 1 := by omega
      have hv2 : ((u8 (s 1)).toNat : Int) < s 1 → now2 - 30 < (L 1).getD ((u8 (s 1)).toNat + 1) 0 := fun h => by omega
      refine AW.seq ?_
      refine AW.region ?_
      refine AO.op (O.move rfl rfl) rfl rfl rfl ?_
      refine AO.op (O.move rfl rfl) rfl rfl rfl ?_
      refine AO.op (O.move rfl rfl) rfl rfl rfl ?_
      refine AO.op (O.call rfl Tryz.func32 rfl rfl rfl (lookup0_fn c 98 now2 hc hp)) rfl rfl rfl ?_
      refine AO.op (O.move rfl rfl) rfl rfl rfl ?_
      refine AO.op (O.extract rfl rfl rfl) rfl rfl rfl ?_
      refine AO.op (O.extract rfl rfl rfl) rfl rfl rfl ?_
      refine AO.opB (O.alloc rfl (by (dsimp only [List.set, List.append, List.cons_append, List.nil_append, roB_cells, roI_cells, roO_cells, stA, splice, ofConst, AV.cells, List.map, List.map_cons, List.map_nil, List.take, List.drop, Nat.zero_add, Nat.add_zero, Nat.reduceAdd, Nat.reduceMul, Nat.zero_mul, Value.cells, List.toList_toArray, zerosA, List.replicate, List.flatten, List.append_nil]; done)) (by rfl)) rfl rfl rfl ?_
      intro B10
      (refine AO.store (i := 0) rfl rfl rfl rfl rfl rfl (by rfl) (by rfl) (by rfl) (by (dsimp only [List.set, List.append, List.cons_append, List.nil_append, roB_cells, roI_cells, roO_cells, stA, splice, ofConst, AV.cells, List.map, List.map_cons, List.map_nil, List.take, List.drop, Nat.zero_add, Nat.add_zero, Nat.reduceAdd, Nat.reduceMul, Nat.zero_mul, Value.cells, List.toList_toArray, zerosA, List.replicate, List.flatten, List.append_nil]; done)) (by (dsimp only [List.set, List.append, List.cons_append, List.nil_append, roB_cells, roI_cells, roO_cells, stA, splice, ofConst, AV.cells, List.map, List.map_cons, List.map_nil, List.take, List.drop, Nat.zero_add, Nat.add_zero, Nat.reduceAdd, Nat.reduceMul, Nat.zero_mul, Value.cells, List.toList_toArray, zerosA, List.replicate, List.flatten, List.append_nil]; done)) ?_)
      refine AO.op (O.assign rfl rfl) rfl rfl rfl ?_
      refine AO.nil ?_
      refine AQ.thenN ?_
      refine AW.seq ?_
      refine AW.seq ?_
      refine AW.region ?_
      refine AO.op (O.move rfl rfl) rfl rfl rfl ?_
      refine AO.op (O.not rfl rfl (by rfl)) rfl rfl rfl ?_
      refine AO.nil ?_
      refine AQ.thenN ?_
      refine AW.condT rfl ?_
      refine AW.seq ?_
      refine AW.region ?_
      refine AO.op (O.move rfl rfl) rfl rfl rfl ?_
      refine AO.op (O.move rfl rfl) rfl rfl rfl ?_
      refine AO.op (O.call rfl Tryz.func33 rfl rfl rfl (tag0_fn c 98 hc hp)) rfl rfl rfl ?_
      refine AO.op (O.move rfl rfl) rfl rfl rfl ?_
      refine AO.op (O.extract rfl rfl rfl) rfl rfl rfl ?_
      refine AO.op (O.extract rfl rfl rfl) rfl rfl rfl ?_
      refine AO.op (O.assign rfl rfl) rfl rfl rfl ?_
      refine AO.op (O.assign rfl rfl) rfl rfl rfl ?_
      refine AO.nil ?_
      refine AQ.thenN ?_
      refine AW.seq ?_
      refine AW.region ?_
      refine AO.op (O.move rfl rfl) rfl rfl rfl ?_
      (refine AO.callM1 (i := 7) rfl rfl Tryz.func13 rfl rfl rfl rfl rfl rfl (next_fn _ _ _ _ hl (by repeat (assumption)) (by omega) (by omega)) (by (dsimp only [List.set, List.append, List.cons_append, List.nil_append, roB_cells, roI_cells, roO_cells, stA, splice, ofConst, AV.cells, List.map, List.map_cons, List.map_nil, List.take, List.drop, Nat.zero_add, Nat.add_zero, Nat.reduceAdd, Nat.reduceMul, Nat.zero_mul, Value.cells, List.toList_toArray, zerosA, List.replicate, List.flatten, List.append_nil]; done)) ?_)
      refine AO.op (O.add rfl rfl rfl (by exact wI64 (by omega))) rfl rfl rfl ?_
      refine AO.op (O.assign rfl rfl) rfl rfl rfl ?_
      refine AO.g ?_
      refine G.re 16 (.val (.int .i64 a)) (congrArg (fun z => some (AV.val (.int .i64 z))) ha.symm) ?_
      refine AO.u ?_
      refine AO.nil ?_
      refine AQ.thenN ?_
      refine AW.seq ?_
      refine AW.regionD 17 (by kernel_rfl) (by kernel_rfl) ?_
      simp only [List.take_succ_cons, List.take_zero, List.drop_succ_cons, List.drop_zero]
      refine FA.op (O.move rfl rfl) rfl rfl rfl rfl ?_
      refine FA.op (O.idxL rfl rfl rfl ⟨(by omega), (by omega)⟩) rfl rfl rfl rfl ?_
      refine FA.op (O.load rfl rfl (by repeat (first | exact List.Mem.head _ | refine List.Mem.tail _ ?_)) (by rfl)) rfl rfl rfl rfl ?_
      refine FA.op (O.conv rfl rfl wU8any) rfl rfl rfl rfl ?_
      refine FA.op (OpW.frz (O.buildSlice rfl rfl rfl (by rfl) (by rfl) (by rfl) (by rfl)) (by (unfold maxLen; omega))) rfl rfl rfl rfl ?_
      refine FA.op (O.build rfl rfl rfl (by rfl)) rfl rfl rfl rfl ?_
      refine FA.op (O.move rfl rfl) rfl rfl rfl rfl ?_
      refine FA.op (O.idxL rfl rfl rfl ⟨(by omega), (by omega)⟩) rfl rfl rfl rfl ?_
      refine FA.op (O.load rfl rfl (by repeat (first | exact List.Mem.head _ | refine List.Mem.tail _ ?_)) (by rfl)) rfl rfl rfl rfl ?_
      refine FA.op (O.conv rfl rfl wU8any) rfl rfl rfl rfl ?_
      refine FA.op (OpW.frz (O.buildSlice rfl rfl rfl (by rfl) (by rfl) (by rfl) (by rfl)) (by (unfold maxLen; omega))) rfl rfl rfl rfl ?_
      refine FA.op (OpW.frz (O.buildSlice rfl rfl rfl (by rfl) (by rfl) (by rfl) (by rfl)) (by (unfold maxLen; omega))) rfl rfl rfl rfl ?_
      (refine FA.op (O.callC rfl Tryz.func15 rfl rfl rfl (setE_fn 69 [u8 (s 1)] (u8 (s 1)) (by simp)) (by (repeat (first | exact CoeL.nil | refine CoeL.cons Coe.rfl ?_ | refine CoeL.cons Coe.nil ?_ | refine CoeL.cons (Coe.agg ?_) ?_)); done)) rfl rfl rfl rfl ?_)
      refine FA.op (O.move rfl rfl) rfl rfl rfl rfl ?_
      refine FA.op (O.call rfl Tryz.func16 rfl rfl rfl (fromC_fn a (by omega))) rfl rfl rfl rfl ?_
      refine FA.op (OpW.frz (O.buildSlice rfl rfl rfl (by rfl) (by rfl) (by rfl) (by rfl)) (by (unfold maxLen; omega))) rfl rfl rfl rfl ?_
      refine FA.op (O.call rfl Tryz.func15 rfl rfl rfl (setA_fn 69 [u8 (s 1)] (u8 (s 1)) a (by simp))) rfl rfl rfl rfl ?_
      refine FA.nil ?_
      simp only [chosen, List.nil_append, List.cons_append, List.append_nil]
      (refine AO.store (i := 0) rfl rfl rfl rfl rfl rfl (by rfl) (by rfl) (by rfl) (by (dsimp only [List.set, List.append, List.cons_append, List.nil_append, roB_cells, roI_cells, roO_cells, stA, splice, ofConst, AV.cells, List.map, List.map_cons, List.map_nil, List.take, List.drop, Nat.zero_add, Nat.add_zero, Nat.reduceAdd, Nat.reduceMul, Nat.zero_mul, Value.cells, List.toList_toArray, zerosA, List.replicate, List.flatten, List.append_nil]; done)) (by (dsimp only [List.set, List.append, List.cons_append, List.nil_append, roB_cells, roI_cells, roO_cells, stA, splice, ofConst, AV.cells, List.map, List.map_cons, List.map_nil, List.take, List.drop, Nat.zero_add, Nat.add_zero, Nat.reduceAdd, Nat.reduceMul, Nat.zero_mul, Value.cells, List.toList_toArray, zerosA, List.replicate, List.flatten, List.append_nil]; done)) ?_)
      refine AO.nil ?_
      refine AQ.thenN ?_
      refine AW.seq ?_
      refine AW.seq ?_
      refine AW.regionD 16 (by kernel_rfl) (by kernel_rfl) ?_
      simp only [List.take_succ_cons, List.take_zero, List.drop_succ_cons, List.drop_zero]
      refine FA.op (O.move rfl rfl) rfl rfl rfl rfl ?_
      refine FA.op (O.move rfl rfl) rfl rfl rfl rfl ?_
      refine FA.no rfl rfl rfl rfl ?_
      refine FA.no rfl rfl rfl rfl ?_
      refine FA.no rfl rfl rfl rfl ?_
      refine FA.op (O.pickF rfl rfl rfl) rfl rfl rfl rfl ?_
      refine FA.op (O.move rfl rfl) rfl rfl rfl rfl ?_
      refine FA.no rfl rfl rfl rfl ?_
      refine FA.no rfl rfl rfl rfl ?_
      refine FA.no rfl rfl rfl rfl ?_
      refine FA.no rfl rfl rfl rfl ?_
      refine FA.no rfl rfl rfl rfl ?_
      refine FA.no rfl rfl rfl rfl ?_
      refine FA.no rfl rfl rfl rfl ?_
      refine FA.no rfl rfl rfl rfl ?_
      refine FA.op (O.pickF rfl rfl rfl) rfl rfl rfl rfl ?_
      refine FA.nil ?_
      simp only [chosen, List.nil_append, List.cons_append, List.append_nil]
      refine AO.nil ?_
      refine AQ.thenN ?_
      refine AW.condF rfl ?_
      refine AW.seq ?_
      refine AW.region ?_
      refine AO.op (O.move rfl rfl) rfl rfl rfl ?_
      refine AO.op (O.move rfl rfl) rfl rfl rfl ?_
      (refine AO.op (O.loadK rfl rfl (by repeat (exact List.Mem.head _)) (by (dsimp only [List.set, List.append, List.cons_append, List.nil_append, roB_cells, roI_cells, roO_cells, stA, splice, ofConst, AV.cells, List.map, List.map_cons, List.map_nil, List.take, List.drop, Nat.zero_add, Nat.add_zero, Nat.reduceAdd, Nat.reduceMul, Nat.zero_mul, Value.cells, List.toList_toArray, zerosA, List.replicate, List.flatten, List.append_nil]; done)) (by rfl)) rfl rfl rfl ?_)
      refine AO.op (O.move rfl rfl) rfl rfl rfl ?_
      refine AO.op (O.call rfl Tryz.func35 rfl rfl rfl (insert0_fn c 98 (u8 (s 1)) a now2 hc hp ha30 hn2)) rfl rfl rfl ?_
      refine AO.op (O.move rfl rfl) rfl rfl rfl ?_
      refine AO.op (O.extract rfl rfl rfl) rfl rfl rfl ?_
      refine AO.op (O.extract rfl rfl rfl) rfl rfl rfl ?_
      refine AO.op (O.assign rfl rfl) rfl rfl rfl ?_
      refine AO.op (O.assign rfl rfl) rfl rfl rfl ?_
      refine AO.nil ?_
      refine AQ.thenN ?_
      refine AW.seq ?_
      refine AW.seq ?_
      refine AW.region ?_
      refine AO.op (O.move rfl rfl) rfl rfl rfl ?_
      refine AO.op (O.neq rfl rfl rfl (by exact bne_eq_false_iff_eq.2 (by omega))) rfl rfl rfl ?_
      refine AO.nil ?_
      refine AQ.thenN ?_
      refine AW.condF rfl ?_
      refine AW.skip ?_
      refine AQ.thenN ?_
      refine AW.region ?_
      refine AO.op (O.move rfl rfl) rfl rfl rfl ?_
      refine AO.op (O.assign rfl rfl) rfl rfl rfl ?_
      refine AO.nil ?_
      refine AQ.thenN ?_
      refine AW.seq ?_
      refine AW.region ?_
      refine AO.op (O.move rfl rfl) rfl rfl rfl ?_
      refine AO.op (O.move rfl rfl) rfl rfl rfl ?_
      refine AO.op (O.move rfl rfl) rfl rfl rfl ?_
      refine AO.op (O.call rfl Tryz.func32 rfl rfl rfl (hlk)) rfl rfl rfl ?_
      refine AO.op (O.move rfl rfl) rfl rfl rfl ?_
      refine AO.op (O.extract rfl rfl rfl) rfl rfl rfl ?_
      refine AO.op (O.extract rfl rfl rfl) rfl rfl rfl ?_
      (refine AO.store (i := 0) rfl rfl rfl rfl rfl rfl (by rfl) (by rfl) (by rfl) (by (dsimp only [List.set, List.append, List.cons_append, List.nil_append, roB_cells, roI_cells, roO_cells, stA, splice, ofConst, AV.cells, List.map, List.map_cons, List.map_nil, List.take, List.drop, Nat.zero_add, Nat.add_zero, Nat.reduceAdd, Nat.reduceMul, Nat.zero_mul, Value.cells, List.toList_toArray, zerosA, List.replicate, List.flatten, List.append_nil]; done)) (by (dsimp only [List.set, List.append, List.cons_append, List.nil_append, roB_cells, roI_cells, roO_cells, stA, splice, ofConst, AV.cells, List.map, List.map_cons, List.map_nil, List.take, List.drop, Nat.zero_add, Nat.add_zero, Nat.reduceAdd, Nat.reduceMul, Nat.zero_mul, Value.cells, List.toList_toArray, zerosA, List.replicate, List.flatten, List.append_nil]; done)) ?_)
      refine AO.op (O.assign rfl rfl) rfl rfl rfl ?_
      refine AO.nil ?_
      refine AQ.thenN ?_
      refine AW.seq ?_
      refine AW.region ?_
      refine AO.op (O.move rfl rfl) rfl rfl rfl ?_
      refine AO.op (O.not rfl rfl (by rfl)) rfl rfl rfl ?_
      refine AO.nil ?_
      refine AQ.thenN ?_
      refine AW.condF rfl ?_
      have hlv : ([u8 (s 1)] : List UInt8).length = 1 := rfl
      refine AW.skip ?_
      refine AQ.thenN ?_
      refine AW.seq ?_
      refine AW.seq ?_
      refine AW.region ?_
      refine AO.op (O.fieldAddr rfl rfl) rfl rfl rfl ?_
      refine AO.op (O.load rfl rfl (by repeat (exact List.Mem.head _)) (by rfl)) rfl rfl rfl ?_
      refine AO.op (O.lenR rfl rfl) rfl rfl rfl ?_
      refine AO.op (O.neq rfl rfl rfl (by exact bne_eq_false_iff_eq.2 (by omega))) rfl rfl rfl ?_
      refine AO.op (O.move rfl rfl) rfl rfl rfl ?_
      refine AO.op (O.move rfl rfl) rfl rfl rfl ?_
      refine AO.op (O.idxL rfl rfl rfl ⟨(by omega), (by omega)⟩) rfl rfl rfl ?_
      refine AO.op (O.load rfl rfl (by repeat (first | exact List.Mem.head _ | refine List.Mem.tail _ ?_)) (by rfl)) rfl rfl rfl ?_
      refine AO.op (O.gtr rfl rfl rfl (by exact bFalse (by omega))) rfl rfl rfl ?_
      refine AO.op (O.pickF rfl rfl rfl) rfl rfl rfl ?_
      refine AO.nil ?_
      refine AQ.thenN ?_
      refine AW.condF rfl ?_
      refine AW.skip ?_
      refine AQ.thenN ?_
      refine AW.seq ?_
      refine AW.region ?_
      refine AO.op (O.fieldAddr rfl rfl) rfl rfl rfl ?_
      refine AO.op (O.load rfl rfl (by repeat (exact List.Mem.head _)) (by rfl)) rfl rfl rfl ?_
      refine AO.op (O.idxR rfl rfl rfl ⟨(by omega), (by omega)⟩) rfl rfl rfl ?_
      refine AO.op (O.loadR rfl rfl (by rfl)) rfl rfl rfl ?_
      refine AO.op (O.conv rfl rfl (by exact wI64 (by omega))) rfl rfl rfl ?_
      refine AO.op (O.assign rfl rfl) rfl rfl rfl ?_
      refine AO.nil ?_
      refine AQ.thenN ?_
      refine AW.seq ?_
      refine AW.region ?_
      refine AO.op (O.move rfl rfl) rfl rfl rfl ?_
      refine AO.op (O.move rfl rfl) rfl rfl rfl ?_
      refine AO.op (O.idxL rfl rfl rfl ⟨(by omega), (by omega)⟩) rfl rfl rfl ?_
      refine AO.op (O.load rfl rfl (by repeat (first | exact List.Mem.head _ | refine List.Mem.tail _ ?_)) (by rfl)) rfl rfl rfl ?_
      refine AO.op (O.gtr rfl rfl rfl (by exact bFalse (by omega))) rfl rfl rfl ?_
      refine AO.op (O.move rfl rfl) rfl rfl rfl ?_
      refine AO.op (O.move rfl rfl) rfl rfl rfl ?_
      refine AO.op (O.move rfl rfl) rfl rfl rfl ?_
      refine AO.op (O.idxL rfl rfl rfl ⟨(by omega), (by omega)⟩) rfl rfl rfl ?_
      refine AO.op (O.load rfl rfl (by repeat (first | exact List.Mem.head _ | refine List.Mem.tail _ ?_)) (by rfl)) rfl rfl rfl ?_
      refine AO.op (O.lss rfl rfl rfl (by exact bFalse (by omega))) rfl rfl rfl ?_
      refine AO.op (O.move rfl rfl) rfl rfl rfl ?_
      refine AO.no rfl rfl rfl ?_
      refine AO.no rfl rfl rfl ?_
      refine AO.no rfl rfl rfl ?_
      refine AO.no rfl rfl rfl ?_
      refine AO.no rfl rfl rfl ?_
      refine AO.no rfl rfl rfl ?_
      refine AO.no rfl rfl rfl ?_
      refine AO.no rfl rfl rfl ?_
      refine AO.no rfl rfl rfl ?_
      refine AO.no rfl rfl rfl ?_
      refine AO.op (O.pickF rfl rfl rfl) rfl rfl rfl ?_
      refine AO.op (O.pickF rfl rfl rfl) rfl rfl rfl ?_
      refine AO.nil ?_
      refine AQ.thenN ?_
      refine AW.condF rfl ?_
      refine AW.skip ?_
      refine AQ.blockN ?_
      refine AQ.blockN ?_
      refine AQ.loopKN _ _ _ (by omega) (⟨_, now2, _, s, L, V0, V1, V2, b4, by omega, hcok, hgok, hs.step hleft (by omega), hV0, hV1, hV2, rfl, rfl, rfl⟩) (by repeat (first | exact envNil | refine envCons rfl ?_)) (by repeat (first | exact envNil | refine envCons rfl ?_)) (by repeat (first | exact subPnil | refine subPcons 2 rfl ?_))
     ·skip
      have hqk : (cd c q).k = 98 := hk
      have hcq : CdOk (cd c q) := hc.2 _ (getD_mem Cd.none hq)
      have hgq : GoodC s L now2 c := hgl
      have hoq : OkC s L (cd c q) := (hgl _ (getD_mem Cd.none hq)).2
      by_cases hlive : Live (cd c q) now2
      ·skip
       have hlaw := fresh_law (k := 1) hoq (by omega) hqk hlive hcq.2.2.2.2
       obtain ⟨v, hv⟩ : ∃ v, v = (cd c q).v := ⟨_, rfl⟩
       rw [← hv] at hlaw
       obtain ⟨hv1, hv2⟩ := hlaw
       have hlk := lookupT_fn c 98 now2 q hc hp hq hn2 hlive hv.symm rfl
       generalize (cd c q).age - (now2 - (cd c q).at_) = a2 at hlk
       refine AW.seq ?_
       refine AW.region ?_
       refine AO.op (O.move rfl rfl) rfl rfl rfl ?_
       refine AO.op (O.move rfl rfl) rfl rfl rfl ?_
       refine AO.op (O.move rfl rfl) rfl rfl rfl ?_
       refine AO.op (O.call rfl Tryz.func32 rfl rfl rfl (hlk)) rfl rfl rfl ?_
       refine AO.op (O.move rfl rfl) rfl rfl rfl ?_
       refine AO.op (O.extract rfl rfl rfl) rfl rfl rfl ?_
       refine AO.op (O.extract rfl rfl rfl) rfl rfl rfl ?_
       refine AO.opB (O.alloc rfl (by (dsimp only [List.set, List.append, List.cons_append, List.nil_append, roB_cells, roI_cells, roO_cells, stA, splice, ofConst, AV.cells, List.map, List.map_cons, List.map_nil, List.take, List.drop, Nat.zero_add, Nat.add_zero, Nat.reduceAdd, Nat.reduceMul, Nat.zero_mul, Value.cells, List.toList_toArray, zerosA, List.replicate, List.flatten, List.append_nil]; done)) (by rfl)) rfl rfl rfl ?_
       intro B10
       (refine AO.store (i := 0) rfl rfl rfl rfl rfl rfl (by rfl) (by rfl) (by rfl) (by (dsimp only [List.set, List.append, List.cons_append, List.nil_append, roB_cells, roI_cells, roO_cells, stA, splice, ofConst, AV.cells, List.map, List.map_cons, List.map_nil, List.take, List.drop, Nat.zero_add, Nat.add_zero, Nat.reduceAdd, Nat.reduceMul, Nat.zero_mul, Value.cells, List.toList_toArray, zerosA, List.replicate, List.flatten, List.append_nil]; done)) (by (dsimp only [List.set, List.append, List.cons_append, List.nil_append, roB_cells, roI_cells, roO_cells, stA, splice, ofConst, AV.cells, List.map, List.map_cons, List.map_nil, List.take, List.drop, Nat.zero_add, Nat.add_zero, Nat.reduceAdd, Nat.reduceMul, Nat.zero_mul, Value.cells, List.toList_toArray, zerosA, List.replicate, List.flatten, List.append_nil]; done)) ?_)
       refine AO.op (O.assign rfl rfl) rfl rfl rfl ?_
       refine AO.nil ?_
       refine AQ.thenN ?_
       refine AW.seq ?_
       refine AW.seq ?_
       refine AW.region ?_
       refine AO.op (O.move rfl rfl) rfl rfl rfl ?_
       refine AO.op (O.not rfl rfl (by rfl)) rfl rfl rfl ?_
       refine AO.nil ?_
       refine AQ.thenN ?_
       refine AW.condF rfl ?_
       have hlv : ([v] : List UInt8).length = 1 := rfl
       refine AW.skip ?_
       refine AQ.thenN ?_
       refine AW.seq ?_
       refine AW.seq ?_
       refine AW.region ?_
       refine AO.op (O.fieldAddr rfl rfl) rfl rfl rfl ?_
       refine AO.op (O.load rfl rfl (by repeat (exact List.Mem.head _)) (by rfl)) rfl rfl rfl ?_
       refine AO.op (O.lenR rfl rfl) rfl rfl rfl ?_
       refine AO.op (O.neq rfl rfl rfl (by exact bne_eq_false_iff_eq.2 (by omega))) rfl rfl rfl ?_
       refine AO.op (O.move rfl rfl) rfl rfl rfl ?_
       refine AO.op (O.move rfl rfl) rfl rfl rfl ?_
       refine AO.op (O.idxL rfl rfl rfl ⟨(by omega), (by omega)⟩) rfl rfl rfl ?_
       refine AO.op (O.load rfl rfl (by repeat (first | exact List.Mem.head _ | refine List.Mem.tail _ ?_)) (by rfl)) rfl rfl rfl ?_
       refine AO.op (O.gtr rfl rfl rfl (by exact bFalse (by omega))) rfl rfl rfl ?_
       refine AO.op (O.pickF rfl rfl rfl) rfl rfl rfl ?_
       refine AO.nil ?_
       refine AQ.thenN ?_
       refine AW.condF rfl ?_
       rcases (show ((v).toNat : Int) < s 1 ∨ ((v).toNat : Int) = s 1 by omega) with hlt | heq
       ·skip
        have hsn := hv2 hlt
        refine AW.g ?_
        refine G.openRow (v := V1) 5 rfl (by omega) (fun b' cap q1 q2 q3 q4 => ?_)
        refine AW.u ?_
        subst q4
        refine AW.g ?_
        dsimp only [List.set]
        refine AW.u ?_
        refine AW.skip ?_
        refine AQ.thenN ?_
        refine AW.seq ?_
        refine AW.region ?_
        refine AO.op (O.fieldAddr rfl rfl) rfl rfl rfl ?_
        refine AO.op (O.load rfl rfl (by repeat (exact List.Mem.head _)) (by rfl)) rfl rfl rfl ?_
        refine AO.op (O.idxR rfl rfl rfl ⟨(by omega), (by omega)⟩) rfl rfl rfl ?_
        refine AO.op (O.loadR rfl rfl (by rfl)) rfl rfl rfl ?_
        refine AO.op (O.conv rfl rfl (by exact wI64 (by omega))) rfl rfl rfl ?_
        refine AO.op (O.assign rfl rfl) rfl rfl rfl ?_
        refine AO.nil ?_
        refine AQ.thenN ?_
        refine AW.seq ?_
        refine AW.region ?_
        refine AO.op (O.move rfl rfl) rfl rfl rfl ?_
        refine AO.op (O.move rfl rfl) rfl rfl rfl ?_
        refine AO.op (O.idxL rfl rfl rfl ⟨(by omega), (by omega)⟩) rfl rfl rfl ?_
        refine AO.op (O.load rfl rfl (by repeat (first | exact List.Mem.head _ | refine List.Mem.tail _ ?_)) (by rfl)) rfl rfl rfl ?_
        refine AO.op (O.gtr rfl rfl rfl (by exact bFalse (by omega))) rfl rfl rfl ?_
        refine AO.op (O.move rfl rfl) rfl rfl rfl ?_
        refine AO.op (O.move rfl rfl) rfl rfl rfl ?_
        refine AO.op (O.move rfl rfl) rfl rfl rfl ?_
        refine AO.op (O.idxL rfl rfl rfl ⟨(by omega), (by omega)⟩) rfl rfl rfl ?_
        refine AO.op (O.load rfl rfl (by repeat (first | exact List.Mem.head _ | refine List.Mem.tail _ ?_)) (by rfl)) rfl rfl rfl ?_
        refine AO.op (O.lss rfl rfl rfl (by exact bTrue (by omega))) rfl rfl rfl ?_
        refine AO.op (O.move rfl rfl) rfl rfl rfl ?_
        refine AO.op (O.move rfl rfl) rfl rfl rfl ?_
        refine AO.op (O.idxL rfl rfl rfl ⟨(by omega), (by omega)⟩) rfl rfl rfl ?_
        refine AO.op (O.load rfl rfl (by repeat (first | exact List.Mem.head _ | refine List.Mem.tail _ ?_)) (by rfl)) rfl rfl rfl ?_
        refine AO.op (O.move rfl rfl) rfl rfl rfl ?_
        refine AO.op (O.add rfl rfl rfl (by exact wI64 (by omega))) rfl rfl rfl ?_
        refine AO.op (O.idxV rfl rfl rfl ⟨(by omega), (by omega)⟩) rfl rfl rfl ?_
        refine AO.op (O.load rfl rfl (by repeat (first | exact List.Mem.head _ | refine List.Mem.tail _ ?_)) (by exact roI_at (k := (v).toNat + 1) (by omega) (by omega))) rfl rfl rfl ?_
        refine AO.op (O.move rfl rfl) rfl rfl rfl ?_
        refine AO.op (O.sub rfl rfl rfl (by exact wI64 (by omega))) rfl rfl rfl ?_
        refine AO.op (O.leq rfl rfl rfl (by exact bFalse (by omega))) rfl rfl rfl ?_
        refine AO.op (O.pickT rfl rfl rfl) rfl rfl rfl ?_
        refine AO.op (O.pickF rfl rfl rfl) rfl rfl rfl ?_
        refine AO.nil ?_
        refine AQ.thenN ?_
        refine AW.condF rfl ?_
        refine AW.skip ?_
        refine AQ.blockN ?_
        refine AQ.blockN ?_
        refine AQ.g ?_
        refine G.closeRow (b := b') 5 rfl q3 rfl q1 q2 ?_
        refine AQ.u ?_
        refine AQ.g ?_
        dsimp only [List.set]
        refine AQ.u ?_
        refine AQ.loopKN _ _ _ (by omega) (⟨_, now2, _, s, L, V0, _, V2, b3, by omega, hc, hgl, hs.step hleft (by omega), hV0, hV1, hV2, rfl, rfl, rfl⟩) (by repeat (first | exact envNil | refine envCons rfl ?_)) (by repeat (first | exact envNil | refine envCons rfl ?_)) (by repeat (first | exact subPnil | refine subPcons 2 rfl ?_))
       ·skip
        refine AW.skip ?_
        refine AQ.thenN ?_
        refine AW.seq ?_
        refine AW.region ?_
        refine AO.op (O.fieldAddr rfl rfl) rfl rfl rfl ?_
        refine AO.op (O.load rfl rfl (by repeat (exact List.Mem.head _)) (by rfl)) rfl rfl rfl ?_
        refine AO.op (O.idxR rfl rfl rfl ⟨(by omega), (by omega)⟩) rfl rfl rfl ?_
        refine AO.op (O.loadR rfl rfl (by rfl)) rfl rfl rfl ?_
        refine AO.op (O.conv rfl rfl (by exact wI64 (by omega))) rfl rfl rfl ?_
        refine AO.op (O.assign rfl rfl) rfl rfl rfl ?_
        refine AO.nil ?_
        refine AQ.thenN ?_
        refine AW.seq ?_
        refine AW.region ?_
        refine AO.op (O.move rfl rfl) rfl rfl rfl ?_
        refine AO.op (O.move rfl rfl) rfl rfl rfl ?_
        refine AO.op (O.idxL rfl rfl rfl ⟨(by omega), (by omega)⟩) rfl rfl rfl ?_
        refine AO.op (O.load rfl rfl (by repeat (first | exact List.Mem.head _ | refine List.Mem.tail _ ?_)) (by rfl)) rfl rfl rfl ?_
        refine AO.op (O.gtr rfl rfl rfl (by exact bFalse (by omega))) rfl rfl rfl ?_
        refine AO.op (O.move rfl rfl) rfl rfl rfl ?_
        refine AO.op (O.move rfl rfl) rfl rfl rfl ?_
        refine AO.op (O.move rfl rfl) rfl rfl rfl ?_
        refine AO.op (O.idxL rfl rfl rfl ⟨(by omega), (by omega)⟩) rfl rfl rfl ?_
        refine AO.op (O.load rfl rfl (by repeat (first | exact List.Mem.head _ | refine List.Mem.tail _ ?_)) (by rfl)) rfl rfl rfl ?_
        refine AO.op (O.lss rfl rfl rfl (by exact bFalse (by omega))) rfl rfl rfl ?_
        refine AO.op (O.move rfl rfl) rfl rfl rfl ?_
        refine AO.no rfl rfl rfl ?_
        refine AO.no rfl rfl rfl ?_
        refine AO.no rfl rfl rfl ?_
        refine AO.no rfl rfl rfl ?_
        refine AO.no rfl rfl rfl ?_
        refine AO.no rfl rfl rfl ?_
        refine AO.no rfl rfl rfl ?_
        refine AO.no rfl rfl rfl ?_
        refine AO.no rfl rfl rfl ?_
        refine AO.no rfl rfl rfl ?_
        refine AO.op (O.pickF rfl rfl rfl) rfl rfl rfl ?_
        refine AO.op (O.pickF rfl rfl rfl) rfl rfl rfl ?_
        refine AO.nil ?_
        refine AQ.thenN ?_
        refine AW.condF rfl ?_
        refine AW.skip ?_
        refine AQ.blockN ?_
        refine AQ.blockN ?_
        refine AQ.loopKN _ _ _ (by omega) (⟨_, now2, _, s, L, V0, V1, V2, b3, by omega, hc, hgl, hs.step hleft (by omega), hV0, hV1, hV2, rfl, rfl, rfl⟩) (by repeat (first | exact envNil | refine envCons rfl ?_)) (by repeat (first | exact envNil | refine envCons rfl ?_)) (by repeat (first | exact subPnil | refine subPcons 2 rfl ?_))
       skip
      ·skip
       obtain ⟨v, hv⟩ : ∃ v, v = (cd c q).v := ⟨_, rfl⟩
       have hsr : COk (refC c q a now2) := hc.set hq rfl ⟨hcq.1, hcq.2.1, hn2, ha30⟩
       have hqr : q < (refC c q a now2).length := by rw [List.length_set]; exact hq
       have hpr := posC_at hsr hqr (k := 98) (by rw [cd_set hq]; exact hqk)
       have hlr := lookupT_fn _ 98 now2 _ hsr hpr hqr hn2 (by rw [cd_set hq]; exact ⟨Int.le_refl _, by show now2 - now2 < a; omega⟩) (v := v) (a := a - (now2 - now2)) (by rw [cd_set hq, hv]) (by rw [cd_set hq])
       have hsi : COk (c.set q (newC 98 (u8 (s 1)) a now2)) := hc.set hq hqk.symm ⟨.inr (.inl rfl), ha30, hn2, ha30⟩
       have hqi : q < (c.set q (newC 98 (u8 (s 1)) a now2)).length := by rw [List.length_set]; exact hq
       have hpi := posC_at hsi hqi (k := 98) (by rw [cd_set hq])
       have hli := lookupT_fn _ 98 now2 _ hsi hpi hqi hn2 (by rw [cd_set hq]; exact ⟨Int.le_refl _, by show now2 - now2 < a; omega⟩) (v := u8 (s 1)) (a := a - (now2 - now2)) (by rw [cd_set hq]) (by rw [cd_set hq])
       have hgi : GoodC s L now2 (c.set q (newC 98 (u8 (s 1)) a now2)) := hgl.set q (Int.le_refl _) (okC_new (k0 := 1) (by omega) rfl hu8)
       have htag : Sp Tryz.prog 33 [roCd c, roB (keyC 98)] [] (Is (.tup [roB [v], .val (.bool true)])) := by rw [hv]; exact tag1_fn c 98 q hc hp hq
       have href : Sp Tryz.prog 34 [roCd c, roB (keyC 98), aggM (fsC v a), .val (.int .i64 now2)] [] (Is (.tup [roCd (refC c q a now2), .val (.int .i64 0)])) := by rw [hv]; exact refresh_fn c 98 q a now2 hc hp hq ha30 hn2
       have hlv : ([v] : List UInt8).length = 1 := rfl
       refine AW.seq ?_
       refine AW.region ?_
       refine AO.op (O.move rfl rfl) rfl rfl rfl ?_
       refine AO.op (O.move rfl rfl) rfl rfl rfl ?_
       refine AO.op (O.move rfl rfl) rfl rfl rfl ?_
       refine AO.op (O.call rfl Tryz.func32 rfl rfl rfl (lookupF_fn c 98 now2 q hc hp hq hn2 hlive)) rfl rfl rfl ?_
       refine AO.op (O.move rfl rfl) rfl rfl rfl ?_
       refine AO.op (O.extract rfl rfl rfl) rfl rfl rfl ?_
       refine AO.op (O.extract rfl rfl rfl) rfl rfl rfl ?_
       refine AO.opB (O.alloc rfl (by (dsimp only [List.set, List.append, List.cons_append, List.nil_append, roB_cells, roI_cells, roO_cells, stA, splice, ofConst, AV.cells, List.map, List.map_cons, List.map_nil, List.take, List.drop, Nat.zero_add, Nat.add_zero, Nat.reduceAdd, Nat.reduceMul, Nat.zero_mul, Value.cells, List.toList_toArray, zerosA, List.replicate, List.flatten, List.append_nil]; done)) (by rfl)) rfl rfl rfl ?_
       intro B10
       (refine AO.store (i := 0) rfl rfl rfl rfl rfl rfl (by rfl) (by rfl) (by rfl) (by (dsimp only [List.set, List.append, List.cons_append, List.nil_append, roB_cells, roI_cells, roO_cells, stA, splice, ofConst, AV.cells, List.map, List.map_cons, List.map_nil, List.take, List.drop, Nat.zero_add, Nat.add_zero, Nat.reduceAdd, Nat.reduceMul, Nat.zero_mul, Value.cells, List.toList_toArray, zerosA, List.replicate, List.flatten, List.append_nil]; done)) (by (dsimp only [List.set, List.append, List.cons_append, List.nil_append, roB_cells, roI_cells, roO_cells, stA, splice, ofConst, AV.cells, List.map, List.map_cons, List.map_nil, List.take, List.drop, Nat.zero_add, Nat.add_zero, Nat.reduceAdd, Nat.reduceMul, Nat.zero_mul, Value.cells, List.toList_toArray, zerosA, List.replicate, List.flatten, List.append_nil]; done)) ?_)
       refine AO.op (O.assign rfl rfl) rfl rfl rfl ?_
       refine AO.nil ?_
       refine AQ.thenN ?_
       refine AW.seq ?_
       refine AW.seq ?_
       refine AW.region ?_
       refine AO.op (O.move rfl rfl) rfl rfl rfl ?_
       refine AO.op (O.not rfl rfl (by rfl)) rfl rfl rfl ?_
       refine AO.nil ?_
       refine AQ.thenN ?_
       refine AW.condT rfl ?_
       refine AW.seq ?_
       refine AW.region ?_
       refine AO.op (O.move rfl rfl) rfl rfl rfl ?_
       refine AO.op (O.move rfl rfl) rfl rfl rfl ?_
       refine AO.op (O.call rfl Tryz.func33 rfl rfl rfl (htag)) rfl rfl rfl ?_
       refine AO.op (O.move rfl rfl) rfl rfl rfl ?_
       refine AO.op (O.extract rfl rfl rfl) rfl rfl rfl ?_
       refine AO.op (O.extract rfl rfl rfl) rfl rfl rfl ?_
       refine AO.op (O.assign rfl rfl) rfl rfl rfl ?_
       refine AO.op (O.assign rfl rfl) rfl rfl rfl ?_
       refine AO.nil ?_
       refine AQ.thenN ?_
       refine AW.seq ?_
       refine AW.region ?_
       refine AO.op (O.move rfl rfl) rfl rfl rfl ?_
       (refine AO.callM1 (i := 7) rfl rfl Tryz.func13 rfl rfl rfl rfl rfl rfl (next_fn _ _ _ _ hl (by repeat (assumption)) (by omega) (by omega)) (by (dsimp only [List.set, List.append, List.cons_append, List.nil_append, roB_cells, roI_cells, roO_cells, stA, splice, ofConst, AV.cells, List.map, List.map_cons, List.map_nil, List.take, List.drop, Nat.zero_add, Nat.add_zero, Nat.reduceAdd, Nat.reduceMul, Nat.zero_mul, Value.cells, List.toList_toArray, zerosA, List.replicate, List.flatten, List.append_nil]; done)) ?_)
       refine AO.op (O.add rfl rfl rfl (by exact wI64 (by omega))) rfl rfl rfl ?_
       refine AO.op (O.assign rfl rfl) rfl rfl rfl ?_
       refine AO.g ?_
       refine G.re 16 (.val (.int .i64 a)) (congrArg (fun z => some (AV.val (.int .i64 z))) ha.symm) ?_
       refine AO.u ?_
       refine AO.nil ?_
       refine AQ.thenN ?_
       refine AW.seq ?_
       refine AW.regionD 17 (by kernel_rfl) (by kernel_rfl) ?_
       simp only [List.take_succ_cons, List.take_zero, List.drop_succ_cons, List.drop_zero]
       refine FA.op (O.move rfl rfl) rfl rfl rfl rfl ?_
       refine FA.op (O.idxL rfl rfl rfl ⟨(by omega), (by omega)⟩) rfl rfl rfl rfl ?_
       refine FA.op (O.load rfl rfl (by repeat (first | exact List.Mem.head _ | refine List.Mem.tail _ ?_)) (by rfl)) rfl rfl rfl rfl ?_
       refine FA.op (O.conv rfl rfl wU8any) rfl rfl rfl rfl ?_
       refine FA.op (OpW.frz (O.buildSlice rfl rfl rfl (by rfl) (by rfl) (by rfl) (by rfl)) (by (unfold maxLen; omega))) rfl rfl rfl rfl ?_
       refine FA.op (O.build rfl rfl rfl (by rfl)) rfl rfl rfl rfl ?_
       refine FA.op (O.move rfl rfl) rfl rfl rfl rfl ?_
       refine FA.op (O.idxL rfl rfl rfl ⟨(by omega), (by omega)⟩) rfl rfl rfl rfl ?_
       refine FA.op (O.load rfl rfl (by repeat (first | exact List.Mem.head _ | refine List.Mem.tail _ ?_)) (by rfl)) rfl rfl rfl rfl ?_
       refine FA.op (O.conv rfl rfl wU8any) rfl rfl rfl rfl ?_
       refine FA.op (OpW.frz (O.buildSlice rfl rfl rfl (by rfl) (by rfl) (by rfl) (by rfl)) (by (unfold maxLen; omega))) rfl rfl rfl rfl ?_
       refine FA.op (OpW.frz (O.buildSlice rfl rfl rfl (by rfl) (by rfl) (by rfl) (by rfl)) (by (unfold maxLen; omega))) rfl rfl rfl rfl ?_
       (refine FA.op (O.callC rfl Tryz.func15 rfl rfl rfl (setE_fn 69 [u8 (s 1)] (u8 (s 1)) (by simp)) (by (repeat (first | exact CoeL.nil | refine CoeL.cons Coe.rfl ?_ | refine CoeL.cons Coe.nil ?_ | refine CoeL.cons (Coe.agg ?_) ?_)); done)) rfl rfl rfl rfl ?_)
       refine FA.op (O.move rfl rfl) rfl rfl rfl rfl ?_
       refine FA.op (O.call rfl Tryz.func16 rfl rfl rfl (fromC_fn a (by omega))) rfl rfl rfl rfl ?_
       refine FA.op (OpW.frz (O.buildSlice rfl rfl rfl (by rfl) (by rfl) (by rfl) (by rfl)) (by (unfold maxLen; omega))) rfl rfl rfl rfl ?_
       refine FA.op (O.call rfl Tryz.func15 rfl rfl rfl (setA_fn 69 [u8 (s 1)] (u8 (s 1)) a (by simp))) rfl rfl rfl rfl ?_
       refine FA.nil ?_
       simp only [chosen, List.nil_append, List.cons_append, List.append_nil]
       (refine AO.store (i := 0) rfl rfl rfl rfl rfl rfl (by rfl) (by rfl) (by rfl) (by (dsimp only [List.set, List.append, List.cons_append, List.nil_append, roB_cells, roI_cells, roO_cells, stA, splice, ofConst, AV.cells, List.map, List.map_cons, List.map_nil, List.take, List.drop, Nat.zero_add, Nat.add_zero, Nat.reduceAdd, Nat.reduceMul, Nat.zero_mul, Value.cells, List.toList_toArray, zerosA, List.replicate, List.flatten, List.append_nil]; done)) (by (dsimp only [List.set, List.append, List.cons_append, List.nil_append, roB_cells, roI_cells, roO_cells, stA, splice, ofConst, AV.cells, List.map, List.map_cons, List.map_nil, List.take, List.drop, Nat.zero_add, Nat.add_zero, Nat.reduceAdd, Nat.reduceMul, Nat.zero_mul, Value.cells, List.toList_toArray, zerosA, List.replicate, List.flatten, List.append_nil]; done)) ?_)
       refine AO.nil ?_
       refine AQ.thenN ?_
       refine AW.seq ?_
       refine AW.seq ?_
       refine AW.regionD 16 (by kernel_rfl) (by kernel_rfl) ?_
       simp only [List.take_succ_cons, List.take_zero, List.drop_succ_cons, List.drop_zero]
       refine FA.op (O.move rfl rfl) rfl rfl rfl rfl ?_
       refine FA.op (O.move rfl rfl) rfl rfl rfl rfl ?_
       refine FA.op (O.move rfl rfl) rfl rfl rfl rfl ?_
       refine FA.op (O.lenR rfl rfl) rfl rfl rfl rfl ?_
       refine FA.op (O.eql rfl rfl rfl (by exact beq_iff_eq.2 (by omega))) rfl rfl rfl rfl ?_
       refine FA.op (O.pickT rfl rfl rfl) rfl rfl rfl rfl ?_
       refine FA.op (O.move rfl rfl) rfl rfl rfl rfl ?_
       refine FA.op (O.move rfl rfl) rfl rfl rfl rfl ?_
       refine FA.op (O.idxR rfl rfl rfl ⟨(by omega), (by omega)⟩) rfl rfl rfl rfl ?_
       refine FA.op (O.loadR rfl rfl (by rfl)) rfl rfl rfl rfl ?_
       refine FA.op (O.move rfl rfl) rfl rfl rfl rfl ?_
       refine FA.op (O.idxL rfl rfl rfl ⟨(by omega), (by omega)⟩) rfl rfl rfl rfl ?_
       refine FA.op (O.load rfl rfl (by repeat (first | exact List.Mem.head _ | refine List.Mem.tail _ ?_)) (by rfl)) rfl rfl rfl rfl ?_
       refine FA.op (O.conv rfl rfl wU8any) rfl rfl rfl rfl ?_
       refine FA.op (O.eql rfl rfl rfl (by rfl)) rfl rfl rfl rfl ?_
       refine FA.op (O.pickT rfl rfl rfl) rfl rfl rfl rfl ?_
       refine FA.nil ?_
       simp only [chosen, List.nil_append, List.cons_append, List.append_nil]
       refine AO.nil ?_
       refine AQ.thenN ?_
       refine AW.split rfl (fun heq => ?_) (fun heq => ?_) <;> (try simp only [decide_eq_true_eq, decide_eq_false_iff_not, beq_iff_eq, beq_eq_false_iff_ne, bne_iff_ne, bne_eq_false_iff_eq, Bool.not_eq_true', Bool.not_eq_false', Bool.not_eq_true, Bool.not_eq_false, ne_eq, Int.not_lt, Int.not_le, Bool.and_eq_true, Bool.or_eq_true, Bool.or_eq_false_iff, Bool.and_eq_false_imp, strOf_toList, Decidable.not_not] at heq)
       ·skip
        have hvs : (v.toNat : Int) = s 1 := by omega
        have hgr : GoodC s L now2 (refC c q a now2) := hgl.set q (Int.le_refl _) (okC_new (k0 := 1) (by omega) hqk (by show ((cd c q).v.toNat : Int) = s 1; rw [← hv]; exact hvs))
        refine AW.seq ?_
        refine AW.region ?_
        refine AO.op (O.move rfl rfl) rfl rfl rfl ?_
        refine AO.op (O.move rfl rfl) rfl rfl rfl ?_
        refine AO.op (O.build rfl rfl rfl (by rfl)) rfl rfl rfl ?_
        refine AO.op (O.move rfl rfl) rfl rfl rfl ?_
        refine AO.opB (O.buildSlice rfl rfl rfl (by rfl) (by rfl) (by rfl) (by rfl)) rfl rfl rfl ?_
        intro B11
        refine AO.g ?_
        (refine G.freezeSl 0 113 rfl rfl ⟨Nat.le_refl _, by unfold maxLen; omega⟩ ?_)
        refine G.unfull 113 rfl ?_
        refine AO.u ?_
        dsimp only [List.eraseIdx]
        (refine AO.op (O.callC rfl Tryz.func15 rfl rfl rfl (setE_fn 67 [] v (by simp)) (by (repeat (first | exact CoeL.nil | refine CoeL.cons Coe.rfl ?_ | refine CoeL.cons Coe.nil ?_ | refine CoeL.cons (Coe.agg ?_) ?_)); done)) rfl rfl rfl ?_)
        refine AO.op (O.move rfl rfl) rfl rfl rfl ?_
        refine AO.op (O.call rfl Tryz.func16 rfl rfl rfl (fromC_fn a (by omega))) rfl rfl rfl ?_
        refine AO.opB (O.buildSlice rfl rfl rfl (by rfl) (by rfl) (by rfl) (by rfl)) rfl rfl rfl ?_
        intro B12
        refine AO.g ?_
        (refine G.freezeSl 0 117 rfl rfl ⟨Nat.le_refl _, by unfold maxLen; omega⟩ ?_)
        refine G.unfull 117 rfl ?_
        refine AO.u ?_
        dsimp only [List.eraseIdx]
        refine AO.op (O.call rfl Tryz.func15 rfl rfl rfl (setA_fn 67 [] v a (by simp))) rfl rfl rfl ?_
        refine AO.op (O.move rfl rfl) rfl rfl rfl ?_
        refine AO.op (O.call rfl Tryz.func34 rfl rfl rfl (href)) rfl rfl rfl ?_
        refine AO.op (O.move rfl rfl) rfl rfl rfl ?_
        refine AO.op (O.extract rfl rfl rfl) rfl rfl rfl ?_
        refine AO.op (O.extract rfl rfl rfl) rfl rfl rfl ?_
        refine AO.op (O.assign rfl rfl) rfl rfl rfl ?_
        refine AO.op (O.assign rfl rfl) rfl rfl rfl ?_
        refine AO.nil ?_
        refine AQ.thenN ?_
        refine AW.seq ?_
        refine AW.seq ?_
        refine AW.region ?_
        refine AO.op (O.move rfl rfl) rfl rfl rfl ?_
        refine AO.op (O.neq rfl rfl rfl (by exact bne_eq_false_iff_eq.2 (by omega))) rfl rfl rfl ?_
        refine AO.nil ?_
        refine AQ.thenN ?_
        refine AW.condF rfl ?_
        refine AW.skip ?_
        refine AQ.thenN ?_
        refine AW.region ?_
        refine AO.op (O.move rfl rfl) rfl rfl rfl ?_
        refine AO.op (O.assign rfl rfl) rfl rfl rfl ?_
        refine AO.nil ?_
        refine AQ.thenN ?_
        refine AW.seq ?_
        refine AW.region ?_
        refine AO.op (O.move rfl rfl) rfl rfl rfl ?_
        refine AO.op (O.move rfl rfl) rfl rfl rfl ?_
        refine AO.op (O.move rfl rfl) rfl rfl rfl ?_
        refine AO.op (O.call rfl Tryz.func32 rfl rfl rfl (hlr)) rfl rfl rfl ?_
        refine AO.op (O.move rfl rfl) rfl rfl rfl ?_
        refine AO.op (O.extract rfl rfl rfl) rfl rfl rfl ?_
        refine AO.op (O.extract rfl rfl rfl) rfl rfl rfl ?_
        (refine AO.store (i := 0) rfl rfl rfl rfl rfl rfl (by rfl) (by rfl) (by rfl) (by (dsimp only [List.set, List.append, List.cons_append, List.nil_append, roB_cells, roI_cells, roO_cells, stA, splice, ofConst, AV.cells, List.map, List.map_cons, List.map_nil, List.take, List.drop, Nat.zero_add, Nat.add_zero, Nat.reduceAdd, Nat.reduceMul, Nat.zero_mul, Value.cells, List.toList_toArray, zerosA, List.replicate, List.flatten, List.append_nil]; done)) (by (dsimp only [List.set, List.append, List.cons_append, List.nil_append, roB_cells, roI_cells, roO_cells, stA, splice, ofConst, AV.cells, List.map, List.map_cons, List.map_nil, List.take, List.drop, Nat.zero_add, Nat.add_zero, Nat.reduceAdd, Nat.reduceMul, Nat.zero_mul, Value.cells, List.toList_toArray, zerosA, List.replicate, List.flatten, List.append_nil]; done)) ?_)
        refine AO.op (O.assign rfl rfl) rfl rfl rfl ?_
        refine AO.nil ?_
        refine AQ.thenN ?_
        refine AW.seq ?_
        refine AW.region ?_
        refine AO.op (O.move rfl rfl) rfl rfl rfl ?_
        refine AO.op (O.not rfl rfl (by rfl)) rfl rfl rfl ?_
        refine AO.nil ?_
        refine AQ.thenN ?_
        refine AW.condF rfl ?_
        have hlv : ([v] : List UInt8).length = 1 := rfl
        refine AW.skip ?_
        refine AQ.thenN ?_
        refine AW.seq ?_
        refine AW.seq ?_
        refine AW.region ?_
        refine AO.op (O.fieldAddr rfl rfl) rfl rfl rfl ?_
        refine AO.op (O.load rfl rfl (by repeat (exact List.Mem.head _)) (by rfl)) rfl rfl rfl ?_
        refine AO.op (O.lenR rfl rfl) rfl rfl rfl ?_
        refine AO.op (O.neq rfl rfl rfl (by exact bne_eq_false_iff_eq.2 (by omega))) rfl rfl rfl ?_
        refine AO.op (O.move rfl rfl) rfl rfl rfl ?_
        refine AO.op (O.move rfl rfl) rfl rfl rfl ?_
        refine AO.op (O.idxL rfl rfl rfl ⟨(by omega), (by omega)⟩) rfl rfl rfl ?_
        refine AO.op (O.load rfl rfl (by repeat (first | exact List.Mem.head _ | refine List.Mem.tail _ ?_)) (by rfl)) rfl rfl rfl ?_
        refine AO.op (O.gtr rfl rfl rfl (by exact bFalse (by omega))) rfl rfl rfl ?_
        refine AO.op (O.pickF rfl rfl rfl) rfl rfl rfl ?_
        refine AO.nil ?_
        refine AQ.thenN ?_
        refine AW.condF rfl ?_
        refine AW.skip ?_
        refine AQ.thenN ?_
        refine AW.seq ?_
        refine AW.region ?_
        refine AO.op (O.fieldAddr rfl rfl) rfl rfl rfl ?_
        refine AO.op (O.load rfl rfl (by repeat (exact List.Mem.head _)) (by rfl)) rfl rfl rfl ?_
        refine AO.op (O.idxR rfl rfl rfl ⟨(by omega), (by omega)⟩) rfl rfl rfl ?_
        refine AO.op (O.loadR rfl rfl (by rfl)) rfl rfl rfl ?_
        refine AO.op (O.conv rfl rfl (by exact wI64 (by omega))) rfl rfl rfl ?_
        refine AO.op (O.assign rfl rfl) rfl rfl rfl ?_
        refine AO.nil ?_
        refine AQ.thenN ?_
        refine AW.seq ?_
        refine AW.region ?_
        refine AO.op (O.move rfl rfl) rfl rfl rfl ?_
        refine AO.op (O.move rfl rfl) rfl rfl rfl ?_
        refine AO.op (O.idxL rfl rfl rfl ⟨(by omega), (by omega)⟩) rfl rfl rfl ?_
        refine AO.op (O.load rfl rfl (by repeat (first | exact List.Mem.head _ | refine List.Mem.tail _ ?_)) (by rfl)) rfl rfl rfl ?_
        refine AO.op (O.gtr rfl rfl rfl (by exact bFalse (by omega))) rfl rfl rfl ?_
        refine AO.op (O.move rfl rfl) rfl rfl rfl ?_
        refine AO.op (O.move rfl rfl) rfl rfl rfl ?_
        refine AO.op (O.move rfl rfl) rfl rfl rfl ?_
        refine AO.op (O.idxL rfl rfl rfl ⟨(by omega), (by omega)⟩) rfl rfl rfl ?_
        refine AO.op (O.load rfl rfl (by repeat (first | exact List.Mem.head _ | refine List.Mem.tail _ ?_)) (by rfl)) rfl rfl rfl ?_
        refine AO.op (O.lss rfl rfl rfl (by exact bFalse (by omega))) rfl rfl rfl ?_
        refine AO.op (O.move rfl rfl) rfl rfl rfl ?_
        refine AO.no rfl rfl rfl ?_
        refine AO.no rfl rfl rfl ?_
        refine AO.no rfl rfl rfl ?_
        refine AO.no rfl rfl rfl ?_
        refine AO.no rfl rfl rfl ?_
        refine AO.no rfl rfl rfl ?_
        refine AO.no rfl rfl rfl ?_
        refine AO.no rfl rfl rfl ?_
        refine AO.no rfl rfl rfl ?_
        refine AO.no rfl rfl rfl ?_
        refine AO.op (O.pickF rfl rfl rfl) rfl rfl rfl ?_
        refine AO.op (O.pickF rfl rfl rfl) rfl rfl rfl ?_
        refine AO.nil ?_
        refine AQ.thenN ?_
        refine AW.condF rfl ?_
        refine AW.skip ?_
        refine AQ.blockN ?_
        refine AQ.blockN ?_
        refine AQ.loopKN _ _ _ (by omega) (⟨_, now2, _, s, L, V0, V1, V2, b4, by omega, hsr, hgr, hs.step hleft (by omega), hV0, hV1, hV2, rfl, rfl, rfl⟩) (by repeat (first | exact envNil | refine envCons rfl ?_)) (by repeat (first | exact envNil | refine envCons rfl ?_)) (by repeat (first | exact subPnil | refine subPcons 2 rfl ?_))
       ·skip
        refine AW.seq ?_
        refine AW.region ?_
        refine AO.op (O.move rfl rfl) rfl rfl rfl ?_
        refine AO.op (O.move rfl rfl) rfl rfl rfl ?_
        (refine AO.op (O.loadK rfl rfl (by repeat (exact List.Mem.head _)) (by (dsimp only [List.set, List.append, List.cons_append, List.nil_append, roB_cells, roI_cells, roO_cells, stA, splice, ofConst, AV.cells, List.map, List.map_cons, List.map_nil, List.take, List.drop, Nat.zero_add, Nat.add_zero, Nat.reduceAdd, Nat.reduceMul, Nat.zero_mul, Value.cells, List.toList_toArray, zerosA, List.replicate, List.flatten, List.append_nil]; done)) (by rfl)) rfl rfl rfl ?_)
        refine AO.op (O.move rfl rfl) rfl rfl rfl ?_
        refine AO.op (O.call rfl Tryz.func35 rfl rfl rfl (insert1_fn c 98 (u8 (s 1)) q a now2 hc hp hq ha30 hn2)) rfl rfl rfl ?_
        refine AO.op (O.move rfl rfl) rfl rfl rfl ?_
        refine AO.op (O.extract rfl rfl rfl) rfl rfl rfl ?_
        refine AO.op (O.extract rfl rfl rfl) rfl rfl rfl ?_
        refine AO.op (O.assign rfl rfl) rfl rfl rfl ?_
        refine AO.op (O.assign rfl rfl) rfl rfl rfl ?_
        refine AO.nil ?_
        refine AQ.thenN ?_
        refine AW.seq ?_
        refine AW.seq ?_
        refine AW.region ?_
        refine AO.op (O.move rfl rfl) rfl rfl rfl ?_
        refine AO.op (O.neq rfl rfl rfl (by exact bne_eq_false_iff_eq.2 (by omega))) rfl rfl rfl ?_
        refine AO.nil ?_
        refine AQ.thenN ?_
        refine AW.condF rfl ?_
        refine AW.skip ?_
        refine AQ.thenN ?_
        refine AW.region ?_
        refine AO.op (O.move rfl rfl) rfl rfl rfl ?_
        refine AO.op (O.assign rfl rfl) rfl rfl rfl ?_
        refine AO.nil ?_
        refine AQ.thenN ?_
        refine AW.seq ?_
        refine AW.region ?_
        refine AO.op (O.move rfl rfl) rfl rfl rfl ?_
        refine AO.op (O.move rfl rfl) rfl rfl rfl ?_
        refine AO.op (O.move rfl rfl) rfl rfl rfl ?_
        refine AO.op (O.call rfl Tryz.func32 rfl rfl rfl (hli)) rfl rfl rfl ?_
        refine AO.op (O.move rfl rfl) rfl rfl rfl ?_
        refine AO.op (O.extract rfl rfl rfl) rfl rfl rfl ?_
        refine AO.op (O.extract rfl rfl rfl) rfl rfl rfl ?_
        (refine AO.store (i := 0) rfl rfl rfl rfl rfl rfl (by rfl) (by rfl) (by rfl) (by (dsimp only [List.set, List.append, List.cons_append, List.nil_append, roB_cells, roI_cells, roO_cells, stA, splice, ofConst, AV.cells, List.map, List.map_cons, List.map_nil, List.take, List.drop, Nat.zero_add, Nat.add_zero, Nat.reduceAdd, Nat.reduceMul, Nat.zero_mul, Value.cells, List.toList_toArray, zerosA, List.replicate, List.flatten, List.append_nil]; done)) (by (dsimp only [List.set, List.append, List.cons_append, List.nil_append, roB_cells, roI_cells, roO_cells, stA, splice, ofConst, AV.cells, List.map, List.map_cons, List.map_nil, List.take, List.drop, Nat.zero_add, Nat.add_zero, Nat.reduceAdd, Nat.reduceMul, Nat.zero_mul, Value.cells, List.toList_toArray, zerosA, List.replicate, List.flatten, List.append_nil]; done)) ?_)
        refine AO.op (O.assign rfl rfl) rfl rfl rfl ?_
        refine AO.nil ?_
        refine AQ.thenN ?_
        refine AW.seq ?_
        refine AW.region ?_
        refine AO.op (O.move rfl rfl) rfl rfl rfl ?_
        refine AO.op (O.not rfl rfl (by rfl)) rfl rfl rfl ?_
        refine AO.nil ?_
        refine AQ.thenN ?_
        refine AW.condF rfl ?_
        have hlv : ([u8 (s 1)] : List UInt8).length = 1 := rfl
        refine AW.skip ?_
        refine AQ.thenN ?_
        refine AW.seq ?_
        refine AW.seq ?_
        refine AW.region ?_
        refine AO.op (O.fieldAddr rfl rfl) rfl rfl rfl ?_
        refine AO.op (O.load rfl rfl (by repeat (exact List.Mem.head _)) (by rfl)) rfl rfl rfl ?_
        refine AO.op (O.lenR rfl rfl) rfl rfl rfl ?_
        refine AO.op (O.neq rfl rfl rfl (by exact bne_eq_false_iff_eq.2 (by omega))) rfl rfl rfl ?_
        refine AO.op (O.move rfl rfl) rfl rfl rfl ?_
        refine AO.op (O.move rfl rfl) rfl rfl rfl ?_
        refine AO.op (O.idxL rfl rfl rfl ⟨(by omega), (by omega)⟩) rfl rfl rfl ?_
        refine AO.op (O.load rfl rfl (by repeat (first | exact List.Mem.head _ | refine List.Mem.tail _ ?_)) (by rfl)) rfl rfl rfl ?_
        refine AO.op (O.gtr rfl rfl rfl (by exact bFalse (by omega))) rfl rfl rfl ?_
        refine AO.op (O.pickF rfl rfl rfl) rfl rfl rfl ?_
        refine AO.nil ?_
        refine AQ.thenN ?_
        refine AW.condF rfl ?_
        refine AW.skip ?_
        refine AQ.thenN ?_
        refine AW.seq ?_
        refine AW.region ?_
        refine AO.op (O.fieldAddr rfl rfl) rfl rfl rfl ?_
        refine AO.op (O.load rfl rfl (by repeat (exact List.Mem.head _)) (by rfl)) rfl rfl rfl ?_
        refine AO.op (O.idxR rfl rfl rfl ⟨(by omega), (by omega)⟩) rfl rfl rfl ?_
        refine AO.op (O.loadR rfl rfl (by rfl)) rfl rfl rfl ?_
        refine AO.op (O.conv rfl rfl (by exact wI64 (by omega))) rfl rfl rfl ?_
        refine AO.op (O.assign rfl rfl) rfl rfl rfl ?_
        refine AO.nil ?_
        refine AQ.thenN ?_
        refine AW.seq ?_
        refine AW.region ?_
        refine AO.op (O.move rfl rfl) rfl rfl rfl ?_
        refine AO.op (O.move rfl rfl) rfl rfl rfl ?_
        refine AO.op (O.idxL rfl rfl rfl ⟨(by omega), (by omega)⟩) rfl rfl rfl ?_
        refine AO.op (O.load rfl rfl (by repeat (first | exact List.Mem.head _ | refine List.Mem.tail _ ?_)) (by rfl)) rfl rfl rfl ?_
        refine AO.op (O.gtr rfl rfl rfl (by exact bFalse (by omega))) rfl rfl rfl ?_
        refine AO.op (O.move rfl rfl) rfl rfl rfl ?_
        refine AO.op (O.move rfl rfl) rfl rfl rfl ?_
        refine AO.op (O.move rfl rfl) rfl rfl rfl ?_
        refine AO.op (O.idxL rfl rfl rfl ⟨(by omega), (by omega)⟩) rfl rfl rfl ?_
        refine AO.op (O.load rfl rfl (by repeat (first | exact List.Mem.head _ | refine List.Mem.tail _ ?_)) (by rfl)) rfl rfl rfl ?_
        refine AO.op (O.lss rfl rfl rfl (by exact bFalse (by omega))) rfl rfl rfl ?_
        refine AO.op (O.move rfl rfl) rfl rfl rfl ?_
        refine AO.no rfl rfl rfl ?_
        refine AO.no rfl rfl rfl ?_
        refine AO.no rfl rfl rfl ?_
        refine AO.no rfl rfl rfl ?_
        refine AO.no rfl rfl rfl ?_
        refine AO.no rfl rfl rfl ?_
        refine AO.no rfl rfl rfl ?_
        refine AO.no rfl rfl rfl ?_
        refine AO.no rfl rfl rfl ?_
        refine AO.no rfl rfl rfl ?_
        refine AO.op (O.pickF rfl rfl rfl) rfl rfl rfl ?_
        refine AO.op (O.pickF rfl rfl rfl) rfl rfl rfl ?_
        refine AO.nil ?_
        refine AQ.thenN ?_
        refine AW.condF rfl ?_
        refine AW.skip ?_
        refine AQ.blockN ?_
        refine AQ.blockN ?_
        refine AQ.loopKN _ _ _ (by omega) (⟨_, now2, _, s, L, V0, V1, V2, b4, by omega, hsi, hgi, hs.step hleft (by omega), hV0, hV1, hV2, rfl, rfl, rfl⟩) (by repeat (first | exact envNil | refine envCons rfl ?_)) (by repeat (first | exact envNil | refine envCons rfl ?_)) (by repeat (first | exact subPnil | refine subPcons 2 rfl ?_))
      skip
     skip
   ·skip
    obtain ⟨sk, hsk⟩ : ∃ sk, sk = s 2 := ⟨_, rfl⟩
    obtain ⟨hs0, hs4, hsl⟩ := hs 2 (by omega)
    have hs75 : s 2 ≤ 75 := by omega
    refine AW.skip ?_
    refine AQ.thenN ?_
    refine AW.block ?_
    refine AW.seq ?_
    refine AW.region ?_
    refine AO.op (O.move rfl rfl) rfl rfl rfl ?_
    refine AO.op (O.move rfl rfl) rfl rfl rfl ?_
    (refine AO.callM1 (i := 5) rfl rfl Tryz.func13 rfl rfl rfl rfl rfl rfl (next_fn _ _ _ _ hl (by repeat (assumption)) (by omega) (by omega)) (by (dsimp only [List.set, List.append, List.cons_append, List.nil_append, roB_cells, roI_cells, roO_cells, stA, splice, ofConst, AV.cells, List.map, List.map_cons, List.map_nil, List.take, List.drop, Nat.zero_add, Nat.add_zero, Nat.reduceAdd, Nat.reduceMul, Nat.zero_mul, Value.cells, List.toList_toArray, zerosA, List.replicate, List.flatten, List.append_nil]; done)) ?_)
    refine AO.op (O.add rfl rfl rfl (by exact wI64 (by omega))) rfl rfl rfl ?_
    refine AO.op (O.assign rfl rfl) rfl rfl rfl ?_
    refine AO.g ?_
    refine G.re 5 (.val (.int .i64 now2)) (congrArg (fun z => some (AV.val (.int .i64 z))) hnow2.symm) ?_
    refine AO.u ?_
    refine AO.nil ?_
    refine AQ.thenN ?_
    refine AW.seq ?_
    refine AW.region ?_
    refine AO.op (O.move rfl rfl) rfl rfl rfl ?_
    (refine AO.callM1 (i := 5) rfl rfl Tryz.func13 rfl rfl rfl rfl rfl rfl (next_fn _ _ _ _ hl (by repeat (first | assumption | refine adv_le' ?_)) (by omega) (by omega)) (by (dsimp only [List.set, List.append, List.cons_append, List.nil_append, roB_cells, roI_cells, roO_cells, stA, splice, ofConst, AV.cells, List.map, List.map_cons, List.map_nil, List.take, List.drop, Nat.zero_add, Nat.add_zero, Nat.reduceAdd, Nat.reduceMul, Nat.zero_mul, Value.cells, List.toList_toArray, zerosA, List.replicate, List.flatten, List.append_nil]; done)) ?_)
    refine AO.op (O.assign rfl rfl) rfl rfl rfl ?_
    refine AO.g ?_
    refine G.re 8 (.val (.int .i64 2)) (congrArg (fun z => some (AV.val (.int .i64 z))) h3) ?_
    refine AO.u ?_
    refine AO.nil ?_
    refine AQ.thenN ?_
    refine AW.seq ?_
    refine AW.region ?_
    refine AO.op (O.build rfl rfl rfl (by rfl)) rfl rfl rfl ?_
    refine AO.op (O.move rfl rfl) rfl rfl rfl ?_
    refine AO.op (O.add rfl rfl rfl (by exact wI64 (by omega))) rfl rfl rfl ?_
    refine AO.op (O.conv rfl rfl (by rfl)) rfl rfl rfl ?_
    refine AO.op (O.runeS rfl rfl rfl) rfl rfl rfl ?_
    refine AO.g ?_
    refine G.re 46 (.val (.string (sC 99))) (congrArg (fun z => some (AV.val (.string z))) (by decide +kernel)) ?_
    refine AO.u ?_
    refine AO.op (O.addS rfl rfl rfl (by decide) (by rfl)) rfl rfl rfl ?_
    refine AO.g ?_
    refine G.re 47 (.val (.string (pC 99))) (congrArg (fun z => some (AV.val (.string z))) (by decide +kernel)) ?_
    refine AO.u ?_
    (refine AO.op (O.callC rfl Tryz.func29 rfl rfl rfl (setpath_fn 99 (.inr (.inr rfl))) (by (repeat (first | exact CoeL.nil | refine CoeL.cons Coe.rfl ?_ | refine CoeL.cons Coe.nil ?_ | refine CoeL.cons (Coe.agg ?_) ?_)); done)) rfl rfl rfl ?_)
    refine AO.op (O.move rfl rfl) rfl rfl rfl ?_
    refine AO.op (O.extract rfl rfl rfl) rfl rfl rfl ?_
    refine AO.op (O.extract rfl rfl rfl) rfl rfl rfl ?_
    refine AO.opB (O.alloc rfl (by (dsimp only [List.set, List.append, List.cons_append, List.nil_append, roB_cells, roI_cells, roO_cells, stA, splice, ofConst, AV.cells, List.map, List.map_cons, List.map_nil, List.take, List.drop, Nat.zero_add, Nat.add_zero, Nat.reduceAdd, Nat.reduceMul, Nat.zero_mul, Value.cells, List.toList_toArray, zerosA, List.replicate, List.flatten, List.append_nil]; done)) (by rfl)) rfl rfl rfl ?_
    intro B7
    (refine AO.store (i := 0) rfl rfl rfl rfl rfl rfl (by rfl) (by rfl) (by rfl) (by (dsimp only [List.set, List.append, List.cons_append, List.nil_append, roB_cells, roI_cells, roO_cells, stA, splice, ofConst, AV.cells, List.map, List.map_cons, List.map_nil, List.take, List.drop, Nat.zero_add, Nat.add_zero, Nat.reduceAdd, Nat.reduceMul, Nat.zero_mul, Value.cells, List.toList_toArray, zerosA, List.replicate, List.flatten, List.append_nil]; done)) (by (dsimp only [List.set, List.append, List.cons_append, List.nil_append, roB_cells, roI_cells, roO_cells, stA, splice, ofConst, AV.cells, List.map, List.map_cons, List.map_nil, List.take, List.drop, Nat.zero_add, Nat.add_zero, Nat.reduceAdd, Nat.reduceMul, Nat.zero_mul, Value.cells, List.toList_toArray, zerosA, List.replicate, List.flatten, List.append_nil]; done)) ?_)
    refine AO.op (O.assign rfl rfl) rfl rfl rfl ?_
    refine AO.nil ?_
    refine AQ.thenN ?_
    refine AW.seq ?_
    refine AW.seq ?_
    refine AW.region ?_
    refine AO.op (O.move rfl rfl) rfl rfl rfl ?_
    refine AO.op (O.neq rfl rfl rfl (by exact bne_eq_false_iff_eq.2 (by omega))) rfl rfl rfl ?_
    refine AO.nil ?_
    refine AQ.thenN ?_
    refine AW.condF rfl ?_
    refine AW.skip ?_
    refine AQ.thenN ?_
    refine AW.seq ?_
    refine AW.region ?_
    (refine AO.op (O.loadK rfl rfl (by repeat (exact List.Mem.head _)) (by (dsimp only [List.set, List.append, List.cons_append, List.nil_append, roB_cells, roI_cells, roO_cells, stA, splice, ofConst, AV.cells, List.map, List.map_cons, List.map_nil, List.take, List.drop, Nat.zero_add, Nat.add_zero, Nat.reduceAdd, Nat.reduceMul, Nat.zero_mul, Value.cells, List.toList_toArray, zerosA, List.replicate, List.flatten, List.append_nil]; done)) (by rfl)) rfl rfl rfl ?_)
    refine AO.op (O.call rfl Tryz.func30 rfl rfl rfl (cachekey_fn 99)) rfl rfl rfl ?_
    refine AO.op (O.assign rfl rfl) rfl rfl rfl ?_
    refine AO.nil ?_
    refine AQ.thenN ?_
    refine AW.seq ?_
    refine AW.region ?_
    refine AO.op (O.move rfl rfl) rfl rfl rfl ?_
    (refine AO.callM1 (i := 6) rfl rfl Tryz.func13 rfl rfl rfl rfl rfl rfl (next_fn _ _ _ _ hl (by repeat (assumption)) (by omega) (by omega)) (by (dsimp only [List.set, List.append, List.cons_append, List.nil_append, roB_cells, roI_cells, roO_cells, stA, splice, ofConst, AV.cells, List.map, List.map_cons, List.map_nil, List.take, List.drop, Nat.zero_add, Nat.add_zero, Nat.reduceAdd, Nat.reduceMul, Nat.zero_mul, Value.cells, List.toList_toArray, zerosA, List.replicate, List.flatten, List.append_nil]; done)) ?_)
    refine AO.nil ?_
    refine AQ.thenN ?_
    refine AW.block ?_
    refine AW.seq ?_
    refine AW.region ?_
    refine AO.op (O.eql rfl rfl rfl (by rfl)) rfl rfl rfl ?_
    refine AO.op (O.assign rfl rfl) rfl rfl rfl ?_
    refine AO.nil ?_
    refine AQ.thenN ?_
    refine AW.split rfl (fun h0 => ?_) (fun h0 => ?_) <;> (try simp only [decide_eq_true_eq, decide_eq_false_iff_not, beq_iff_eq, beq_eq_false_iff_ne, bne_iff_ne, bne_eq_false_iff_eq, Bool.not_eq_true', Bool.not_eq_false', Bool.not_eq_true, Bool.not_eq_false, ne_eq, Int.not_lt, Int.not_le, Bool.and_eq_true, Bool.or_eq_true, Bool.or_eq_false_iff, Bool.and_eq_false_imp, strOf_toList, Decidable.not_not] at h0)
    ·skip
     have hup := hgl.up (k0 := 2) hs0 hsl
     have hsu := hs.up (now2 := now2) hleft (kk2 := adv l (adv l (adv l (adv l kk)))) h44 2 now2
     have hL1 : (updP L 2 (L 2 ++ [now2]) 2).length = (L 2).length + 1 := by rw [updP_eq]; simp
     have hL2 : intsA .i64 (updP L 2 (L 2 ++ [now2]) 2) = intsA .i64 (L 2) ++ [.val (.int .i64 now2)] := by rw [updP_eq]; simp [intsA]
     refine AW.seq ?_
     refine AW.region ?_
     refine AO.op (O.move rfl rfl) rfl rfl rfl ?_
     refine AO.op (O.idxL rfl rfl rfl ⟨(by omega), (by omega)⟩) rfl rfl rfl ?_
     refine AO.op (O.load rfl rfl (by repeat (first | exact List.Mem.head _ | refine List.Mem.tail _ ?_)) (by rfl)) rfl rfl rfl ?_
     refine AO.op (O.add rfl rfl rfl (by exact wI64 (by omega))) rfl rfl rfl ?_
     refine AO.op (O.idxL rfl rfl rfl ⟨(by omega), (by omega)⟩) rfl rfl rfl ?_
     (refine AO.store (i := 2) rfl rfl rfl rfl rfl rfl (by rfl) (by rfl) (by rfl) (by (dsimp only [List.set, List.append, List.cons_append, List.nil_append, roB_cells, roI_cells, roO_cells, stA, splice, ofConst, AV.cells, List.map, List.map_cons, List.map_nil, List.take, List.drop, Nat.zero_add, Nat.add_zero, Nat.reduceAdd, Nat.reduceMul, Nat.zero_mul, Value.cells, List.toList_toArray, zerosA, List.replicate, List.flatten, List.append_nil]; done)) (by (dsimp only [List.set, List.append, List.cons_append, List.nil_append, roB_cells, roI_cells, roO_cells, stA, splice, ofConst, AV.cells, List.map, List.map_cons, List.map_nil, List.take, List.drop, Nat.zero_add, Nat.add_zero, Nat.reduceAdd, Nat.reduceMul, Nat.zero_mul, Value.cells, List.toList_toArray, zerosA, List.replicate, List.flatten, List.append_nil]; done)) ?_)
     refine AO.nil ?_
     refine AQ.thenN ?_
     refine AW.seq ?_
     refine AW.region ?_
     refine AO.op (O.move rfl rfl) rfl rfl rfl ?_
     refine AO.op (O.move rfl rfl) rfl rfl rfl ?_
     refine AO.op (O.idxL rfl rfl rfl ⟨(by omega), (by omega)⟩) rfl rfl rfl ?_
     refine AO.op (O.load rfl rfl (by repeat (first | exact List.Mem.head _ | refine List.Mem.tail _ ?_)) (by rfl)) rfl rfl rfl ?_
     refine AO.op (O.move rfl rfl) rfl rfl rfl ?_
     refine AO.opB (O.buildSlice rfl rfl rfl (by rfl) (by rfl) (by rfl) (by rfl)) rfl rfl rfl ?_
     intro B8
     refine AO.g ?_
     (refine G.freezeSl 0 201 rfl rfl ⟨Nat.le_refl _, by unfold maxLen; omega⟩ ?_)
     refine G.unfull 201 rfl ?_
     refine AO.u ?_
     dsimp only [List.eraseIdx]
     (refine AO.append' (i := 5) rfl rfl rfl rfl (by rfl) (by rfl) rfl rfl rfl (by exact SrcA.ro TyD.ax (by rfl) (Nat.le_of_ble_eq_true rfl)) (by rfl) (by (unfold maxLen; omega)) (by omega) (by (dsimp only [List.set, List.append, List.cons_append, List.nil_append, roB_cells, roI_cells, roO_cells, stA, splice, ofConst, AV.cells, List.map, List.map_cons, List.map_nil, List.take, List.drop, Nat.zero_add, Nat.add_zero, Nat.reduceAdd, Nat.reduceMul, Nat.zero_mul, Value.cells, List.toList_toArray, zerosA, List.replicate, List.flatten, List.append_nil]; done)) (fun _ => by (dsimp only [List.set]; done)) ?_)
     intro V9 hV9
     refine AO.op (O.idxL rfl rfl rfl ⟨(by omega), (by omega)⟩) rfl rfl rfl ?_
     (refine AO.store (i := 1) rfl rfl rfl rfl rfl rfl (by (simp [AV.cells, AV.one, *]; done)) (by rfl) (by rfl) (by (dsimp only [List.set, List.append, List.cons_append, List.nil_append, roB_cells, roI_cells, roO_cells, stA, splice, ofConst, AV.cells, List.map, List.map_cons, List.map_nil, List.take, List.drop, Nat.zero_add, Nat.add_zero, Nat.reduceAdd, Nat.reduceMul, Nat.zero_mul, Value.cells, List.toList_toArray, zerosA, List.replicate, List.flatten, List.append_nil]; done)) (by (dsimp only [List.set, List.append, List.cons_append, List.nil_append, roB_cells, roI_cells, roO_cells, stA, splice, ofConst, AV.cells, List.map, List.map_cons, List.map_nil, List.take, List.drop, Nat.zero_add, Nat.add_zero, Nat.reduceAdd, Nat.reduceMul, Nat.zero_mul, Value.cells, List.toList_toArray, zerosA, List.replicate, List.flatten, List.append_nil]; done)) ?_)
     refine AO.nil ?_
     refine AQ.thenN ?_
     refine AW.seq ?_
     refine AW.region ?_
     refine AO.op (O.move rfl rfl) rfl rfl rfl ?_
     (refine AO.callM1 (i := 6) rfl rfl Tryz.func13 rfl rfl rfl rfl rfl rfl (next_fn _ _ _ _ hl (by repeat (assumption)) (by omega) (by omega)) (by (dsimp only [List.set, List.append, List.cons_append, List.nil_append, roB_cells, roI_cells, roO_cells, stA, splice, ofConst, AV.cells, List.map, List.map_cons, List.map_nil, List.take, List.drop, Nat.zero_add, Nat.add_zero, Nat.reduceAdd, Nat.reduceMul, Nat.zero_mul, Value.cells, List.toList_toArray, zerosA, List.replicate, List.flatten, List.append_nil]; done)) ?_)
     refine AO.op (O.eql rfl rfl rfl (by rfl)) rfl rfl rfl ?_
     refine AO.nil ?_
     refine AQ.thenN ?_
     refine AW.split rfl (fun hr => ?_) (fun hr => ?_) <;> (try simp only [decide_eq_true_eq, decide_eq_false_iff_not, beq_iff_eq, beq_eq_false_iff_ne, bne_iff_ne, bne_eq_false_iff_eq, Bool.not_eq_true', Bool.not_eq_false', Bool.not_eq_true, Bool.not_eq_false, ne_eq, Int.not_lt, Int.not_le, Bool.and_eq_true, Bool.or_eq_true, Bool.or_eq_false_iff, Bool.and_eq_false_imp, strOf_toList, Decidable.not_not] at hr)
     ·skip
      refine AW.region ?_
      refine AO.op (O.move rfl rfl) rfl rfl rfl ?_
      refine AO.op (O.move rfl rfl) rfl rfl rfl ?_
      (refine AO.op (O.call rfl Tryz.func31 rfl rfl rfl (remove_fn c 99 (by have := hc.len; omega))) rfl rfl rfl ?_)
      refine AO.op (O.assign rfl rfl) rfl rfl rfl ?_
      refine AO.nil ?_
      refine AQ.blockN ?_
      refine AQ.blockN ?_
      rw [← hL1, ← hL2]
      refine AQ.loopKN _ _ _ (by omega) (⟨_, now2, _, updP s 2 (s 2 + 1), updP L 2 (L 2 ++ [now2]), V0, V1, _, b4, by omega, hc.rem _, hup.sub (fun e he => (List.mem_filter.1 he).1), hsu, hV0, hV1, ‹_›, rfl, rfl, rfl⟩) (by repeat (first | exact envNil | refine envCons rfl ?_)) (by repeat (first | exact envNil | refine envCons rfl ?_)) (by repeat (first | exact subPnil | refine subPcons 1 rfl ?_))
     ·skip
      refine AW.skip ?_
      refine AQ.blockN ?_
      refine AQ.blockN ?_
      rw [← hL1, ← hL2]
      refine AQ.loopKN _ _ _ (by omega) (⟨_, now2, _, updP s 2 (s 2 + 1), updP L 2 (L 2 ++ [now2]), V0, V1, _, b4, by omega, hc, hup, hsu, hV0, hV1, ‹_›, rfl, rfl, rfl⟩) (by repeat (first | exact envNil | refine envCons rfl ?_)) (by repeat (first | exact envNil | refine envCons rfl ?_)) (by repeat (first | exact subPnil | refine subPcons 1 rfl ?_))
    ·skip
     have hz5 := nxt_in l (adv l (adv l (adv l kk))) (n := 30) (by omega)
     obtain ⟨a, ha⟩ : ∃ a, a = 1 + nxt l (adv l (adv l (adv l kk))) 30 := ⟨_, rfl⟩
     have ha30 : 1 ≤ a ∧ a ≤ 30 := by omega
     have hu8 : ((u8 (s 2)).toNat : Int) = s 2 := by rw [u8_nat]; omega
     rcases posC_cases c 99 with ⟨hp, hno⟩ | ⟨q, hq, hp, hk⟩
     ·skip
      have hcok : COk (c ++ [newC 99 (u8 (s 2)) a now2]) := hc.add hno ⟨.inr (.inr rfl), ha30, hn2, ha30⟩
      have hgok : GoodC s L now2 (c ++ [newC 99 (u8 (s 2)) a now2]) := hgl.add (Int.le_refl _) (okC_new (k0 := 2) (by omega) rfl hu8)
      have hql : c.length < (c ++ [newC 99 (u8 (s 2)) a now2]).length := by simp
      have hpq := posC_at hcok hql (k := 99) (by rw [cd_add])
      have hlk := lookupT_fn _ 99 now2 _ hcok hpq hql hn2 (by rw [cd_add]; exact ⟨Int.le_refl _, by show now2 - now2 < a; omega⟩) (v := u8 (s 2)) (a := a - (now2 - now2)) (by rw [cd_add]) (by rw [cd_add])
      have hv1 : ((u8 (s 2)).toNat : Int) ≤ s 2 := by omega
      have hv2 : ((u8 (s 2)).toNat : Int) < s 2 → now2 - 30 < (L 2).getD ((u8 (s 2)).toNat + 1) 0 := fun h => by omega
      refine AW.seq ?_
      refine AW.region ?_
      refine AO.op (O.move rfl rfl) rfl rfl rfl ?_
      refine AO.op (O.move rfl rfl) rfl rfl rfl ?_
      refine AO.op (O.move rfl rfl) rfl rfl rfl ?_
      refine AO.op (O.call rfl Tryz.func32 rfl rfl rfl (lookup0_fn c 99 now2 hc hp)) rfl rfl rfl ?_
      refine AO.op (O.move rfl rfl) rfl rfl rfl ?_
      refine AO.op (O.extract rfl rfl rfl) rfl rfl rfl ?_
      refine AO.op (O.extract rfl rfl rfl) rfl rfl rfl ?_
      refine AO.opB (O.alloc rfl (by (dsimp only [List.set, List.append, List.cons_append, List.nil_append, roB_cells, roI_cells, roO_cells, stA, splice, ofConst, AV.cells, List.map, List.map_cons, List.map_nil, List.take, List.drop, Nat.zero_add, Nat.add_zero, Nat.reduceAdd, Nat.reduceMul, Nat.zero_mul, Value.cells, List.toList_toArray, zerosA, List.replicate, List.flatten, List.append_nil]; done)) (by rfl)) rfl rfl rfl ?_
      intro B10
      (refine AO.store (i := 0) rfl rfl rfl rfl rfl rfl (by rfl) (by rfl) (by rfl) (by (dsimp only [List.set, List.append, List.cons_append, List.nil_append, roB_cells, roI_cells, roO_cells, stA, splice, ofConst, AV.cells, List.map, List.map_cons, List.map_nil, List.take, List.drop, Nat.zero_add, Nat.add_zero, Nat.reduceAdd, Nat.reduceMul, Nat.zero_mul, Value.cells, List.toList_toArray, zerosA, List.replicate, List.flatten, List.append_nil]; done)) (by (dsimp only [List.set, List.append, List.cons_append, List.nil_append, roB_cells, roI_cells, roO_cells, stA, splice, ofConst, AV.cells, List.map, List.map_cons, List.map_nil, List.take, List.drop, Nat.zero_add, Nat.add_zero, Nat.reduceAdd, Nat.reduceMul, Nat.zero_mul, Value.cells, List.toList_toArray, zerosA, List.replicate, List.flatten, List.append_nil]; done)) ?_)
      refine AO.op (O.assign rfl rfl) rfl rfl rfl ?_
      refine AO.nil ?_
      refine AQ.thenN ?_
      refine AW.seq ?_
      refine AW.seq ?_
      refine AW.region ?_
      refine AO.op (O.move rfl rfl) rfl rfl rfl ?_
      refine AO.op (O.not rfl rfl (by rfl)) rfl rfl rfl ?_
      refine AO.nil ?_
      refine AQ.thenN ?_
      refine AW.condT rfl ?_
      refine AW.seq ?_
      refine AW.region ?_
      refine AO.op (O.move rfl rfl) rfl rfl rfl ?_
      refine AO.op (O.move rfl rfl) rfl rfl rfl ?_
      refine AO.op (O.call rfl Tryz.func33 rfl rfl rfl (tag0_fn c 99 hc hp)) rfl rfl rfl ?_
      refine AO.op (O.move rfl rfl) rfl rfl rfl ?_
      refine AO.op (O.extract rfl rfl rfl) rfl rfl rfl ?_
      refine AO.op (O.extract rfl rfl rfl) rfl rfl rfl ?_
      refine AO.op (O.assign rfl rfl) rfl rfl rfl ?_
      refine AO.op (O.assign rfl rfl) rfl rfl rfl ?_
      refine AO.nil ?_
      refine AQ.thenN ?_
      refine AW.seq ?_
      refine AW.region ?_
      refine AO.op (O.move rfl rfl) rfl rfl rfl ?_
      (refine AO.callM1 (i := 7) rfl rfl Tryz.func13 rfl rfl rfl rfl rfl rfl (next_fn _ _ _ _ hl (by repeat (assumption)) (by omega) (by omega)) (by (dsimp only [List.set, List.append, List.cons_append, List.nil_append, roB_cells, roI_cells, roO_cells, stA, splice, ofConst, AV.cells, List.map, List.map_cons, List.map_nil, List.take, List.drop, Nat.zero_add, Nat.add_zero, Nat.reduceAdd, Nat.reduceMul, Nat.zero_mul, Value.cells, List.toList_toArray, zerosA, List.replicate, List.flatten, List.append_nil]; done)) ?_)
      refine AO.op (O.add rfl rfl rfl (by exact wI64 (by omega))) rfl rfl rfl ?_
      refine AO.op (O.assign rfl rfl) rfl rfl rfl ?_
      refine AO.g ?_
      refine G.re 16 (.val (.int .i64 a)) (congrArg (fun z => some (AV.val (.int .i64 z))) ha.symm) ?_
      refine AO.u ?_
      refine AO.nil ?_
      refine AQ.thenN ?_
      refine AW.seq ?_
      refine AW.regionD 17 (by kernel_rfl) (by kernel_rfl) ?_
      simp only [List.take_succ_cons, List.take_zero, List.drop_succ_cons, List.drop_zero]
      refine FA.op (O.move rfl rfl) rfl rfl rfl rfl ?_
      refine FA.op (O.idxL rfl rfl rfl ⟨(by omega), (by omega)⟩) rfl rfl rfl rfl ?_
      refine FA.op (O.load rfl rfl (by repeat (first | exact List.Mem.head _ | refine List.Mem.tail _ ?_)) (by rfl)) rfl rfl rfl rfl ?_
      refine FA.op (O.conv rfl rfl wU8any) rfl rfl rfl rfl ?_
      refine FA.op (OpW.frz (O.buildSlice rfl rfl rfl (by rfl) (by rfl) (by rfl) (by rfl)) (by (unfold maxLen; omega))) rfl rfl rfl rfl ?_
      refine FA.op (O.build rfl rfl rfl (by rfl)) rfl rfl rfl rfl ?_
      refine FA.op (O.move rfl rfl) rfl rfl rfl rfl ?_
      refine FA.op (O.idxL rfl rfl rfl ⟨(by omega), (by omega)⟩) rfl rfl rfl rfl ?_
      refine FA.op (O.load rfl rfl (by repeat (first | exact List.Mem.head _ | refine List.Mem.tail _ ?_)) (by rfl)) rfl rfl rfl rfl ?_
      refine FA.op (O.conv rfl rfl wU8any) rfl rfl rfl rfl ?_
      refine FA.op (OpW.frz (O.buildSlice rfl rfl rfl (by rfl) (by rfl) (by rfl) (by rfl)) (by (unfold maxLen; omega))) rfl rfl rfl rfl ?_
      refine FA.op (OpW.frz (O.buildSlice rfl rfl rfl (by rfl) (by rfl) (by rfl) (by rfl)) (by (unfold maxLen; omega))) rfl rfl rfl rfl ?_
      (refine FA.op (O.callC rfl Tryz.func15 rfl rfl rfl (setE_fn 69 [u8 (s 2)] (u8 (s 2)) (by simp)) (by (repeat (first | exact CoeL.nil | refine CoeL.cons Coe.rfl ?_ | refine CoeL.cons Coe.nil ?_ | refine CoeL.cons (Coe.agg ?_) ?_)); done)) rfl rfl rfl rfl ?_)
      refine FA.op (O.move rfl rfl) rfl rfl rfl rfl ?_
      refine FA.op (O.call rfl Tryz.func16 rfl rfl rfl (fromC_fn a (by omega))) rfl rfl rfl rfl ?_
      refine FA.op (OpW.frz (O.buildSlice rfl rfl rfl (by rfl) (by rfl) (by rfl) (by rfl)) (by (unfold maxLen; omega))) rfl rfl rfl rfl ?_
      refine FA.op (O.call rfl Tryz.func15 rfl rfl rfl (setA_fn 69 [u8 (s 2)] (u8 (s 2)) a (by simp))) rfl rfl rfl rfl ?_
      refine FA.nil ?_
      simp only [chosen, List.nil_append, List.cons_append, List.append_nil]
      (refine AO.store (i := 0) rfl rfl rfl rfl rfl rfl (by rfl) (by rfl) (by rfl) (by (dsimp only [List.set, List.append, List.cons_append, List.nil_append, roB_cells, roI_cells, roO_cells, stA, splice, ofConst, AV.cells, List.map, List.map_cons, List.map_nil, List.take, List.drop, Nat.zero_add, Nat.add_zero, Nat.reduceAdd, Nat.reduceMul, Nat.zero_mul, Value.cells, List.toList_toArray, zerosA, List.replicate, List.flatten, List.append_nil]; done)) (by (dsimp only [List.set, List.append, List.cons_append, List.nil_append, roB_cells, roI_cells, roO_cells, stA, splice, ofConst, AV.cells, List.map, List.map_cons, List.map_nil, List.take, List.drop, Nat.zero_add, Nat.add_zero, Nat.reduceAdd, Nat.reduceMul, Nat.zero_mul, Value.cells, List.toList_toArray, zerosA, List.replicate, List.flatten, List.append_nil]; done)) ?_)
      refine AO.nil ?_
      refine AQ.thenN ?_
      refine AW.seq ?_
      refine AW.seq ?_
      refine AW.regionD 16 (by kernel_rfl) (by kernel_rfl) ?_
      simp only [List.take_succ_cons, List.take_zero, List.drop_succ_cons, List.drop_zero]
      refine FA.op (O.move rfl rfl) rfl rfl rfl rfl ?_
      refine FA.op (O.move rfl rfl) rfl rfl rfl rfl ?_
      refine FA.no rfl rfl rfl rfl ?_
      refine FA.no rfl rfl rfl rfl ?_
      refine FA.no rfl rfl rfl rfl ?_
      refine FA.op (O.pickF rfl rfl rfl) rfl rfl rfl rfl ?_
      refine FA.op (O.move rfl rfl) rfl rfl rfl rfl ?_
      refine FA.no rfl rfl rfl rfl ?_
      refine FA.no rfl rfl rfl rfl ?_
      refine FA.no rfl rfl rfl rfl ?_
      refine FA.no rfl rfl rfl rfl ?_
      refine FA.no rfl rfl rfl rfl ?_
      refine FA.no rfl rfl rfl rfl ?_
      refine FA.no rfl rfl rfl rfl ?_
      refine FA.no rfl rfl rfl rfl ?_
      refine FA.op (O.pickF rfl rfl rfl) rfl rfl rfl rfl ?_
      refine FA.nil ?_
      simp only [chosen, List.nil_append, List.cons_append, List.append_nil]
      refine AO.nil ?_
      refine AQ.thenN ?_
      refine AW.condF rfl ?_
      refine AW.seq ?_
      refine AW.region ?_
      refine AO.op (O.move rfl rfl) rfl rfl rfl ?_
      refine AO.op (O.move rfl rfl) rfl rfl rfl ?_
      (refine AO.op (O.loadK rfl rfl (by repeat (exact List.Mem.head _)) (by (dsimp only [List.set, List.append, List.cons_append, List.nil_append, roB_cells, roI_cells, roO_cells, stA, splice, ofConst, AV.cells, List.map, List.map_cons, List.map_nil, List.take, List.drop, Nat.zero_add, Nat.add_zero, Nat.reduceAdd, Nat.reduceMul, Nat.zero_mul, Value.cells, List.toList_toArray, zerosA, List.replicate, List.flatten, List.append_nil]; done)) (by rfl)) rfl rfl rfl ?_)
      refine AO.op (O.move rfl rfl) rfl rfl rfl ?_
      refine AO.op (O.call rfl Tryz.func35 rfl rfl rfl (insert0_fn c 99 (u8 (s 2)) a now2 hc hp ha30 hn2)) rfl rfl rfl ?_
      refine AO.op (O.move rfl rfl) rfl rfl rfl ?_
      refine AO.op (O.extract rfl rfl rfl) rfl rfl rfl ?_
      refine AO.op (O.extract rfl rfl rfl) rfl rfl rfl ?_
      refine AO.op (O.assign rfl rfl) rfl rfl rfl ?_
      refine AO.op (O.assign rfl rfl) rfl rfl rfl ?_
      refine AO.nil ?_
      refine AQ.thenN ?_
      refine AW.seq ?_
      refine AW.seq ?_
      refine AW.region ?_
      refine AO.op (O.move rfl rfl) rfl rfl rfl ?_
      refine AO.op (O.neq rfl rfl rfl (by exact bne_eq_false_iff_eq.2 (by omega))) rfl rfl rfl ?_
      refine AO.nil ?_
      refine AQ.thenN ?_
      refine AW.condF rfl ?_
      refine AW.skip ?_
      refine AQ.thenN ?_
      refine AW.region ?_
      refine AO.op (O.move rfl rfl) rfl rfl rfl ?_
      refine AO.op (O.assign rfl rfl) rfl rfl rfl ?_
      refine AO.nil ?_
      refine AQ.thenN ?_
      refine AW.seq ?_
      refine AW.region ?_
      refine AO.op (O.move rfl rfl) rfl rfl rfl ?_
      refine AO.op (O.move rfl rfl) rfl rfl rfl ?_
      refine AO.op (O.move rfl rfl) rfl rfl rfl ?_
      refine AO.op (O.call rfl Tryz.func32 rfl rfl rfl (hlk)) rfl rfl rfl ?_
      refine AO.op (O.move rfl rfl) rfl rfl rfl ?_
      refine AO.op (O.extract rfl rfl rfl) rfl rfl rfl ?_
      refine AO.op (O.extract rfl rfl rfl) rfl rfl rfl ?_
      (refine AO.store (i := 0) rfl rfl rfl rfl rfl rfl (by rfl) (by rfl) (by rfl) (by (dsimp only [List.set, List.append, List.cons_append, List.nil_append, roB_cells, roI_cells, roO_cells, stA, splice, ofConst, AV.cells, List.map, List.map_cons, List.map_nil, List.take, List.drop, Nat.zero_add, Nat.add_zero, Nat.reduceAdd, Nat.reduceMul, Nat.zero_mul, Value.cells, List.toList_toArray, zerosA, List.replicate, List.flatten, List.append_nil]; done)) (by (dsimp only [List.set, List.append, List.cons_append, List.nil_append, roB_cells, roI_cells, roO_cells, stA, splice, ofConst, AV.cells, List.map, List.map_cons, List.map_nil, List.take, List.drop, Nat.zero_add, Nat.add_zero, Nat.reduceAdd, Nat.reduceMul, Nat.zero_mul, Value.cells, List.toList_toArray, zerosA, List.replicate, List.flatten, List.append_nil]; done)) ?_)
      refine AO.op (O.assign rfl rfl) rfl rfl rfl ?_
      refine AO.nil ?_
      refine AQ.thenN ?_
      refine AW.seq ?_
      refine AW.region ?_
      refine AO.op (O.move rfl rfl) rfl rfl rfl ?_
      refine AO.op (O.not rfl rfl (by rfl)) rfl rfl rfl ?_
      refine AO.nil ?_
      refine AQ.thenN ?_
      refine AW.condF rfl ?_
      have hlv : ([u8 (s 2)] : List UInt8).length = 1 := rfl
      refine AW.skip ?_
      refine AQ.thenN ?_
      refine AW.seq ?_
      refine AW.seq ?_
      refine AW.region ?_
      refine AO.op (O.fieldAddr rfl rfl) rfl rfl rfl ?_
      refine AO.op (O.load rfl rfl (by repeat (exact List.Mem.head _)) (by rfl)) rfl rfl rfl ?_
      refine AO.op (O.lenR rfl rfl) rfl rfl rfl ?_
      refine AO.op (O.neq rfl rfl rfl (by exact bne_eq_false_iff_eq.2 (by omega))) rfl rfl rfl ?_
      refine AO.op (O.move rfl rfl) rfl rfl rfl ?_
      refine AO.op (O.move rfl rfl) rfl rfl rfl ?_
      refine AO.op (O.idxL rfl rfl rfl ⟨(by omega), (by omega)⟩) rfl rfl rfl ?_
      refine AO.op (O.load rfl rfl (by repeat (first | exact List.Mem.head _ | refine List.Mem.tail _ ?_)) (by rfl)) rfl rfl rfl ?_
      refine AO.op (O.gtr rfl rfl rfl (by exact bFalse (by omega))) rfl rfl rfl ?_
      refine AO.op (O.pickF rfl rfl rfl) rfl rfl rfl ?_
      refine AO.nil ?_
      refine AQ.thenN ?_
      refine AW.condF rfl ?_
      refine AW.skip ?_
      refine AQ.thenN ?_
      refine AW.seq ?_
      refine AW.region ?_
      refine AO.op (O.fieldAddr rfl rfl) rfl rfl rfl ?_
      refine AO.op (O.load rfl rfl (by repeat (exact List.Mem.head _)) (by rfl)) rfl rfl rfl ?_
      refine AO.op (O.idxR rfl rfl rfl ⟨(by omega), (by omega)⟩) rfl rfl rfl ?_
      refine AO.op (O.loadR rfl rfl (by rfl)) rfl rfl rfl ?_
      refine AO.op (O.conv rfl rfl (by exact wI64 (by omega))) rfl rfl rfl ?_
      refine AO.op (O.assign rfl rfl) rfl rfl rfl ?_
      refine AO.nil ?_
      refine AQ.thenN ?_
      refine AW.seq ?_
      refine AW.region ?_
      refine AO.op (O.move rfl rfl) rfl rfl rfl ?_
      refine AO.op (O.move rfl rfl) rfl rfl rfl ?_
      refine AO.op (O.idxL rfl rfl rfl ⟨(by omega), (by omega)⟩) rfl rfl rfl ?_
      refine AO.op (O.load rfl rfl (by repeat (first | exact List.Mem.head _ | refine List.Mem.tail _ ?_)) (by rfl)) rfl rfl rfl ?_
      refine AO.op (O.gtr rfl rfl rfl (by exact bFalse (by omega))) rfl rfl rfl ?_
      refine AO.op (O.move rfl rfl) rfl rfl rfl ?_
      refine AO.op (O.move rfl rfl) rfl rfl rfl ?_
      refine AO.op (O.move rfl rfl) rfl rfl rfl ?_
      refine AO.op (O.idxL rfl rfl rfl ⟨(by omega), (by omega)⟩) rfl rfl rfl ?_
      refine AO.op (O.load rfl rfl (by repeat (first | exact List.Mem.head _ | refine List.Mem.tail _ ?_)) (by rfl)) rfl rfl rfl ?_
      refine AO.op (O.lss rfl rfl rfl (by exact bFalse (by omega))) rfl rfl rfl ?_
      refine AO.op (O.move rfl rfl) rfl rfl rfl ?_
      refine AO.no rfl rfl rfl ?_
      refine AO.no rfl rfl rfl ?_
      refine AO.no rfl rfl rfl ?_
      refine AO.no rfl rfl rfl ?_
      refine AO.no rfl rfl rfl ?_
      refine AO.no rfl rfl rfl ?_
      refine AO.no rfl rfl rfl ?_
      refine AO.no rfl rfl rfl ?_
      refine AO.no rfl rfl rfl ?_
      refine AO.no rfl rfl rfl ?_
      refine AO.op (O.pickF rfl rfl rfl) rfl rfl rfl ?_
      refine AO.op (O.pickF rfl rfl rfl) rfl rfl rfl ?_
      refine AO.nil ?_
      refine AQ.thenN ?_
      refine AW.condF rfl ?_
      refine AW.skip ?_
      refine AQ.blockN ?_
      refine AQ.blockN ?_
      refine AQ.loopKN _ _ _ (by omega) (⟨_, now2, _, s, L, V0, V1, V2, b4, by omega, hcok, hgok, hs.step hleft (by omega), hV0, hV1, hV2, rfl, rfl, rfl⟩) (by repeat (first | exact envNil | refine envCons rfl ?_)) (by repeat (first | exact envNil | refine envCons rfl ?_)) (by repeat (first | exact subPnil | refine subPcons 2 rfl ?_))
     ·skip
      have hqk : (cd c q).k = 99 := hk
      have hcq : CdOk (cd c q) := hc.2 _ (getD_mem Cd.none hq)
      have hgq : GoodC s L now2 c := hgl
      have hoq : OkC s L (cd c q) := (hgl _ (getD_mem Cd.none hq)).2
      by_cases hlive : Live (cd c q) now2
      ·skip
       have hlaw := fresh_law (k := 2) hoq (by omega) hqk hlive hcq.2.2.2.2
       obtain ⟨v, hv⟩ : ∃ v, v = (cd c q).v := ⟨_, rfl⟩
       rw [← hv] at hlaw
       obtain ⟨hv1, hv2⟩ := hlaw
       have hlk := lookupT_fn c 99 now2 q hc hp hq hn2 hlive hv.symm rfl
       generalize (cd c q).age - (now2 - (cd c q).at_) = a2 at hlk
       refine AW.seq ?_
       refine AW.region ?_
       refine AO.op (O.move rfl rfl) rfl rfl rfl ?_
       refine AO.op (O.move rfl rfl) rfl rfl rfl ?_
       refine AO.op (O.move rfl rfl) rfl rfl rfl ?_
       refine AO.op (O.call rfl Tryz.func32 rfl rfl rfl (hlk)) rfl rfl rfl ?_
       refine AO.op (O.move rfl rfl) rfl rfl rfl ?_
       refine AO.op (O.extract rfl rfl rfl) rfl rfl rfl ?_
       refine AO.op (O.extract rfl rfl rfl) rfl rfl rfl ?_
       refine AO.opB (O.alloc rfl (by (dsimp only [List.set, List.append, List.cons_append, List.nil_append, roB_cells, roI_cells, roO_cells, stA, splice, ofConst, AV.cells, List.map, List.map_cons, List.map_nil, List.take, List.drop, Nat.zero_add, Nat.add_zero, Nat.reduceAdd, Nat.reduceMul, Nat.zero_mul, Value.cells, List.toList_toArray, zerosA, List.replicate, List.flatten, List.append_nil]; done)) (by rfl)) rfl rfl rfl ?_
       intro B10
       (refine AO.store (i := 0) rfl rfl rfl rfl rfl rfl (by rfl) (by rfl) (by rfl) (by (dsimp only [List.set, List.append, List.cons_append, List.nil_append, roB_cells, roI_cells, roO_cells, stA, splice, ofConst, AV.cells, List.map, List.map_cons, List.map_nil, List.take, List.drop, Nat.zero_add, Nat.add_zero, Nat.reduceAdd, Nat.reduceMul, Nat.zero_mul, Value.cells, List.toList_toArray, zerosA, List.replicate, List.flatten, List.append_nil]; done)) (by (dsimp only [List.set, List.append, List.cons_append, List.nil_append, roB_cells, roI_cells, roO_cells, stA, splice, ofConst, AV.cells, List.map, List.map_cons, List.map_nil, List.take, List.drop, Nat.zero_add, Nat.add_zero, Nat.reduceAdd, Nat.reduceMul, Nat.zero_mul, Value.cells, List.toList_toArray, zerosA, List.replicate, List.flatten, List.append_nil]; done)) ?_)
       refine AO.op (O.assign rfl rfl) rfl rfl rfl ?_
       refine AO.nil ?_
       refine AQ.thenN ?_
       refine AW.seq ?_
       refine AW.seq ?_
       refine AW.region ?_
       refine AO.op (O.move rfl rfl) rfl rfl rfl ?_
       refine AO.op (O.not rfl rfl (by rfl)) rfl rfl rfl ?_
       refine AO.nil ?_
       refine AQ.thenN ?_
       refine AW.condF rfl ?_
       have hlv : ([v] : List UInt8).length = 1 := rfl
       refine AW.skip ?_
       refine AQ.thenN ?_
       refine AW.seq ?_
       refine AW.seq ?_
       refine AW.region ?_
       refine AO.op (O.fieldAddr rfl rfl) rfl rfl rfl ?_
       refine AO.op (O.load rfl rfl (by repeat (exact List.Mem.head _)) (by rfl)) rfl rfl rfl ?_
       refine AO.op (O.lenR rfl rfl) rfl rfl rfl ?_
       refine AO.op (O.neq rfl rfl rfl (by exact bne_eq_false_iff_eq.2 (by omega))) rfl rfl rfl ?_
       refine AO.op (O.move rfl rfl) rfl rfl rfl ?_
       refine AO.op (O.move rfl rfl) rfl rfl rfl ?_
       refine AO.op (O.idxL rfl rfl rfl ⟨(by omega), (by omega)⟩) rfl rfl rfl ?_
       refine AO.op (O.load rfl rfl (by repeat (first | exact List.Mem.head _ | refine List.Mem.tail _ ?_)) (by rfl)) rfl rfl rfl ?_
       refine AO.op (O.gtr rfl rfl rfl (by exact bFalse (by omega))) rfl rfl rfl ?_
       refine AO.op (O.pickF rfl rfl rfl) rfl rfl rfl ?_
       refine AO.nil ?_
       refine AQ.thenN ?_
       refine AW.condF rfl ?_
       rcases (show ((v).toNat : Int) < s 2 ∨ ((v).toNat : Int) = s 2 by omega) with hlt | heq
       ·skip
        have hsn := hv2 hlt
        refine AW.g ?_
        refine G.openRow (v := V2) 6 rfl (by omega) (fun b' cap q1 q2 q3 q4 => ?_)
        refine AW.u ?_
        subst q4
        refine AW.g ?_
        dsimp only [List.set]
        refine AW.u ?_
        refine AW.skip ?_
        refine AQ.thenN ?_
        refine AW.seq ?_
        refine AW.region ?_
        refine AO.op (O.fieldAddr rfl rfl) rfl rfl rfl ?_
        refine AO.op (O.load rfl rfl (by repeat (exact List.Mem.head _)) (by rfl)) rfl rfl rfl ?_
        refine AO.op (O.idxR rfl rfl rfl ⟨(by omega), (by omega)⟩) rfl rfl rfl ?_
        refine AO.op (O.loadR rfl rfl (by rfl)) rfl rfl rfl ?_
        refine AO.op (O.conv rfl rfl (by exact wI64 (by omega))) rfl rfl rfl ?_
        refine AO.op (O.assign rfl rfl) rfl rfl rfl ?_
        refine AO.nil ?_
        refine AQ.thenN ?_
        refine AW.seq ?_
        refine AW.region ?_
        refine AO.op (O.move rfl rfl) rfl rfl rfl ?_
        refine AO.op (O.move rfl rfl) rfl rfl rfl ?_
        refine AO.op (O.idxL rfl rfl rfl ⟨(by omega), (by omega)⟩) rfl rfl rfl ?_
        refine AO.op (O.load rfl rfl (by repeat (first | exact List.Mem.head _ | refine List.Mem.tail _ ?_)) (by rfl)) rfl rfl rfl ?_
        refine AO.op (O.gtr rfl rfl rfl (by exact bFalse (by omega))) rfl rfl rfl ?_
        refine AO.op (O.move rfl rfl) rfl rfl rfl ?_
        refine AO.op (O.move rfl rfl) rfl rfl rfl ?_
        refine AO.op (O.move rfl rfl) rfl rfl rfl ?_
        refine AO.op (O.idxL rfl rfl rfl ⟨(by omega), (by omega)⟩) rfl rfl rfl ?_
        refine AO.op (O.load rfl rfl (by repeat (first | exact List.Mem.head _ | refine List.Mem.tail _ ?_)) (by rfl)) rfl rfl rfl ?_
        refine AO.op (O.lss rfl rfl rfl (by exact bTrue (by omega))) rfl rfl rfl ?_
        refine AO.op (O.move rfl rfl) rfl rfl rfl ?_
        refine AO.op (O.move rfl rfl) rfl rfl rfl ?_
        refine AO.op (O.idxL rfl rfl rfl ⟨(by omega), (by omega)⟩) rfl rfl rfl ?_
        refine AO.op (O.load rfl rfl (by repeat (first | exact List.Mem.head _ | refine List.Mem.tail _ ?_)) (by rfl)) rfl rfl rfl ?_
        refine AO.op (O.move rfl rfl) rfl rfl rfl ?_
        refine AO.op (O.add rfl rfl rfl (by exact wI64 (by omega))) rfl rfl rfl ?_
        refine AO.op (O.idxV rfl rfl rfl ⟨(by omega), (by omega)⟩) rfl rfl rfl ?_
        refine AO.op (O.load rfl rfl (by repeat (first | exact List.Mem.head _ | refine List.Mem.tail _ ?_)) (by exact roI_at (k := (v).toNat + 1) (by omega) (by omega))) rfl rfl rfl ?_
        refine AO.op (O.move rfl rfl) rfl rfl rfl ?_
        refine AO.op (O.sub rfl rfl rfl (by exact wI64 (by omega))) rfl rfl rfl ?_
        refine AO.op (O.leq rfl rfl rfl (by exact bFalse (by omega))) rfl rfl rfl ?_
        refine AO.op (O.pickT rfl rfl rfl) rfl rfl rfl ?_
        refine AO.op (O.pickF rfl rfl rfl) rfl rfl rfl ?_
        refine AO.nil ?_
        refine AQ.thenN ?_
        refine AW.condF rfl ?_
        refine AW.skip ?_
        refine AQ.blockN ?_
        refine AQ.blockN ?_
        refine AQ.g ?_
        refine G.closeRow (b := b') 6 rfl q3 rfl q1 q2 ?_
        refine AQ.u ?_
        refine AQ.g ?_
        dsimp only [List.set]
        refine AQ.u ?_
        refine AQ.loopKN _ _ _ (by omega) (⟨_, now2, _, s, L, V0, V1, _, b3, by omega, hc, hgl, hs.step hleft (by omega), hV0, hV1, hV2, rfl, rfl, rfl⟩) (by repeat (first | exact envNil | refine envCons rfl ?_)) (by repeat (first | exact envNil | refine envCons rfl ?_)) (by repeat (first | exact subPnil | refine subPcons 2 rfl ?_))
       ·skip
        refine AW.skip ?_
        refine AQ.thenN ?_
        refine AW.seq ?_
        refine AW.region ?_
        refine AO.op (O.fieldAddr rfl rfl) rfl rfl rfl ?_
        refine AO.op (O.load rfl rfl (by repeat (exact List.Mem.head _)) (by rfl)) rfl rfl rfl ?_
        refine AO.op (O.idxR rfl rfl rfl ⟨(by omega), (by omega)⟩) rfl rfl rfl ?_
        refine AO.op (O.loadR rfl rfl (by rfl)) rfl rfl rfl ?_
        refine AO.op (O.conv rfl rfl (by exact wI64 (by omega))) rfl rfl rfl ?_
        refine AO.op (O.assign rfl rfl) rfl rfl rfl ?_
        refine AO.nil ?_
        refine AQ.thenN ?_
        refine AW.seq ?_
        refine AW.region ?_
        refine AO.op (O.move rfl rfl) rfl rfl rfl ?_
        refine AO.op (O.move rfl rfl) rfl rfl rfl ?_
        refine AO.op (O.idxL rfl rfl rfl ⟨(by omega), (by omega)⟩) rfl rfl rfl ?_
        refine AO.op (O.load rfl rfl (by repeat (first | exact List.Mem.head _ | refine List.Mem.tail _ ?_)) (by rfl)) rfl rfl rfl ?_
        refine AO.op (O.gtr rfl rfl rfl (by exact bFalse (by omega))) rfl rfl rfl ?_
        refine AO.op (O.move rfl rfl) rfl rfl rfl ?_
        refine AO.op (O.move rfl rfl) rfl rfl rfl ?_
        refine AO.op (O.move rfl rfl) rfl rfl rfl ?_
        refine AO.op (O.idxL rfl rfl rfl ⟨(by omega), (by omega)⟩) rfl rfl rfl ?_
        refine AO.op (O.load rfl rfl (by repeat (first | exact List.Mem.head _ | refine List.Mem.tail _ ?_)) (by rfl)) rfl rfl rfl ?_
        refine AO.op (O.lss rfl rfl rfl (by exact bFalse (by omega))) rfl rfl rfl ?_
        refine AO.op (O.move rfl rfl) rfl rfl rfl ?_
        refine AO.no rfl rfl rfl ?_
        refine AO.no rfl rfl rfl ?_
        refine AO.no rfl rfl rfl ?_
        refine AO.no rfl rfl rfl ?_
        refine AO.no rfl rfl rfl ?_
        refine AO.no rfl rfl rfl ?_
        refine AO.no rfl rfl rfl ?_
        refine AO.no rfl rfl rfl ?_
        refine AO.no rfl rfl rfl ?_
        refine AO.no rfl rfl rfl ?_
        refine AO.op (O.pickF rfl rfl rfl) rfl rfl rfl ?_
        refine AO.op (O.pickF rfl rfl rfl) rfl rfl rfl ?_
        refine AO.nil ?_
        refine AQ.thenN ?_
        refine AW.condF rfl ?_
        refine AW.skip ?_
        refine AQ.blockN ?_
        refine AQ.blockN ?_
        refine AQ.loopKN _ _ _ (by omega) (⟨_, now2, _, s, L, V0, V1, V2, b3, by omega, hc, hgl, hs.step hleft (by omega), hV0, hV1, hV2, rfl, rfl, rfl⟩) (by repeat (first | exact envNil | refine envCons rfl ?_)) (by repeat (first | exact envNil | refine envCons rfl ?_)) (by repeat (first | exact subPnil | refine subPcons 2 rfl ?_))
       skip
      ·skip
       obtain ⟨v, hv⟩ : ∃ v, v = (cd c q).v := ⟨_, rfl⟩
       have hsr : COk (refC c q a now2) := hc.set hq rfl ⟨hcq.1, hcq.2.1, hn2, ha30⟩
       have hqr : q < (refC c q a now2).length := by rw [List.length_set]; exact hq
       have hpr := posC_at hsr hqr (k := 99) (by rw [cd_set hq]; exact hqk)
       have hlr := lookupT_fn _ 99 now2 _ hsr hpr hqr hn2 (by rw [cd_set hq]; exact ⟨Int.le_refl _, by show now2 - now2 < a; omega⟩) (v := v) (a := a - (now2 - now2)) (by rw [cd_set hq, hv]) (by rw [cd_set hq])
       have hsi : COk (c.set q (newC 99 (u8 (s 2)) a now2)) := hc.set hq hqk.symm ⟨.inr (.inr rfl), ha30, hn2, ha30⟩
       have hqi : q < (c.set q (newC 99 (u8 (s 2)) a now2)).length := by rw [List.length_set]; exact hq
       have hpi := posC_at hsi hqi (k := 99) (by rw [cd_set hq])
       have hli := lookupT_fn _ 99 now2 _ hsi hpi hqi hn2 (by rw [cd_set hq]; exact ⟨Int.le_refl _, by show now2 - now2 < a; omega⟩) (v := u8 (s 2)) (a := a - (now2 - now2)) (by rw [cd_set hq]) (by rw [cd_set hq])
       have hgi : GoodC s L now2 (c.set q (newC 99 (u8 (s 2)) a now2)) := hgl.set q (Int.le_refl _) (okC_new (k0 := 2) (by omega) rfl hu8)
       have htag : Sp Tryz.prog 33 [roCd c, roB (keyC 99)] [] (Is (.tup [roB [v], .val (.bool true)])) := by rw [hv]; exact tag1_fn c 99 q hc hp hq
       have href : Sp Tryz.prog 34 [roCd c, roB (keyC 99), aggM (fsC v a), .val (.int .i64 now2)] [] (Is (.tup [roCd (refC c q a now2), .val (.int .i64 0)])) := by rw [hv]; exact refresh_fn c 99 q a now2 hc hp hq ha30 hn2
       have hlv : ([v] : List UInt8).length = 1 := rfl
       refine AW.seq ?_
       refine AW.region ?_
       refine AO.op (O.move rfl rfl) rfl rfl rfl ?_
       refine AO.op (O.move rfl rfl) rfl rfl rfl ?_
       refine AO.op (O.move rfl rfl) rfl rfl rfl ?_
       refine AO.op (O.call rfl Tryz.func32 rfl rfl rfl (lookupF_fn c 99 now2 q hc hp hq hn2 hlive)) rfl rfl rfl ?_
       refine AO.op (O.move rfl rfl) rfl rfl rfl ?_
       refine AO.op (O.extract rfl rfl rfl) rfl rfl rfl ?_
       refine AO.op (O.extract rfl rfl rfl) rfl rfl rfl ?_
       refine AO.opB (O.alloc rfl (by (dsimp only [List.set, List.append, List.cons_append, List.nil_append, roB_cells, roI_cells, roO_cells, stA, splice, ofConst, AV.cells, List.map, List.map_cons, List.map_nil, List.take, List.drop, Nat.zero_add, Nat.add_zero, Nat.reduceAdd, Nat.reduceMul, Nat.zero_mul, Value.cells, List.toList_toArray, zerosA, List.replicate, List.flatten, List.append_nil]; done)) (by rfl)) rfl rfl rfl ?_
       intro B10
       (refine AO.store (i := 0) rfl rfl rfl rfl rfl rfl (by rfl) (by rfl) (by rfl) (by (dsimp only [List.set, List.append, List.cons_append, List.nil_append, roB_cells, roI_cells, roO_cells, stA, splice, ofConst, AV.cells, List.map, List.map_cons, List.map_nil, List.take, List.drop, Nat.zero_add, Nat.add_zero, Nat.reduceAdd, Nat.reduceMul, Nat.zero_mul, Value.cells, List.toList_toArray, zerosA, List.replicate, List.flatten, List.append_nil]; done)) (by (dsimp only [List.set, List.append, List.cons_append, List.nil_append, roB_cells, roI_cells, roO_cells, stA, splice, ofConst, AV.cells, List.map, List.map_cons, List.map_nil, List.take, List.drop, Nat.zero_add, Nat.add_zero, Nat.reduceAdd, Nat.reduceMul, Nat.zero_mul, Value.cells, List.toList_toArray, zerosA, List.replicate, List.flatten, List.append_nil]; done)) ?_)
       refine AO.op (O.assign rfl rfl) rfl rfl rfl ?_
       refine AO.nil ?_
       refine AQ.thenN ?_
       refine AW.seq ?_
       refine AW.seq ?_
       refine AW.region ?_
       refine AO.op (O.move rfl rfl) rfl rfl rfl ?_
       refine AO.op (O.not rfl rfl (by rfl)) rfl rfl rfl ?_
       refine AO.nil ?_
       refine AQ.thenN ?_
       refine AW.condT rfl ?_
       refine AW.seq ?_
       refine AW.region ?_
       refine AO.op (O.move rfl rfl) rfl rfl rfl ?_
       refine AO.op (O.move rfl rfl) rfl rfl rfl ?_
       refine AO.op (O.call rfl Tryz.func33 rfl rfl rfl (htag)) rfl rfl rfl ?_
       refine AO.op (O.move rfl rfl) rfl rfl rfl ?_
       refine AO.op (O.extract rfl rfl rfl) rfl rfl rfl ?_
       refine AO.op (O.extract rfl rfl rfl) rfl rfl rfl ?_
       refine AO.op (O.assign rfl rfl) rfl rfl rfl ?_
       refine AO.op (O.assign rfl rfl) rfl rfl rfl ?_
       refine AO.nil ?_
       refine AQ.thenN ?_
       refine AW.seq ?_
       refine AW.region ?_
       refine AO.op (O.move rfl rfl) rfl rfl rfl ?_
       (refine AO.callM1 (i := 7) rfl rfl Tryz.func13 rfl rfl rfl rfl rfl rfl (next_fn _ _ _ _ hl (by repeat (assumption)) (by omega) (by omega)) (by (dsimp only [List.set, List.append, List.cons_append, List.nil_append, roB_cells, roI_cells, roO_cells, stA, splice, ofConst, AV.cells, List.map, List.map_cons, List.map_nil, List.take, List.drop, Nat.zero_add, Nat.add_zero, Nat.reduceAdd, Nat.reduceMul, Nat.zero_mul, Value.cells, List.toList_toArray, zerosA, List.replicate, List.flatten, List.append_nil]; done)) ?_)
       refine AO.op (O.add rfl rfl rfl (by exact wI64 (by omega))) rfl rfl rfl ?_
       refine AO.op (O.assign rfl rfl) rfl rfl rfl ?_
       refine AO.g ?_
       refine G.re 16 (.val (.int .i64 a)) (congrArg (fun z => some (AV.val (.int .i64 z))) ha.symm) ?_
       refine AO.u ?_
       refine AO.nil ?_
       refine AQ.thenN ?_
       refine AW.seq ?_
       refine AW.regionD 17 (by kernel_rfl) (by kernel_rfl) ?_
       simp only [List.take_succ_cons, List.take_zero, List.drop_succ_cons, List.drop_zero]
       refine FA.op (O.move rfl rfl) rfl rfl rfl rfl ?_
       refine FA.op (O.idxL rfl rfl rfl ⟨(by omega), (by omega)⟩) rfl rfl rfl rfl ?_
       refine FA.op (O.load rfl rfl (by repeat (first | exact List.Mem.head _ | refine List.Mem.tail _ ?_)) (by rfl)) rfl rfl rfl rfl ?_
       refine FA.op (O.conv rfl rfl wU8any) rfl rfl rfl rfl ?_
       refine FA.op (OpW.frz (O.buildSlice rfl rfl rfl (by rfl) (by rfl) (by rfl) (by rfl)) (by (unfold maxLen; omega))) rfl rfl rfl rfl ?_
       refine FA.op (O.build rfl rfl rfl (by rfl)) rfl rfl rfl rfl ?_
       refine FA.op (O.move rfl rfl) rfl rfl rfl rfl ?_
       refine FA.op (O.idxL rfl rfl rfl ⟨(by omega), (by omega)⟩) rfl rfl rfl rfl ?_
       refine FA.op (O.load rfl rfl (by repeat (first | exact List.Mem.head _ | refine List.Mem.tail _ ?_)) (by rfl)) rfl rfl rfl rfl ?_
       refine FA.op (O.conv rfl rfl wU8any) rfl rfl rfl rfl ?_
       refine FA.op (OpW.frz (O.buildSlice rfl rfl rfl (by rfl) (by rfl) (by rfl) (by rfl)) (by (unfold maxLen; omega))) rfl rfl rfl rfl ?_
       refine FA.op (OpW.frz (O.buildSlice rfl rfl rfl (by rfl) (by rfl) (by rfl) (by rfl)) (by (unfold maxLen; omega))) rfl rfl rfl rfl ?_
       (refine FA.op (O.callC rfl Tryz.func15 rfl rfl rfl (setE_fn 69 [u8 (s 2)] (u8 (s 2)) (by simp)) (by (repeat (first | exact CoeL.nil | refine CoeL.cons Coe.rfl ?_ | refine CoeL.cons Coe.nil ?_ | refine CoeL.cons (Coe.agg ?_) ?_)); done)) rfl rfl rfl rfl ?_)
       refine FA.op (O.move rfl rfl) rfl rfl rfl rfl ?_
       refine FA.op (O.call rfl Tryz.func16 rfl rfl rfl (fromC_fn a (by omega))) rfl rfl rfl rfl ?_
       refine FA.op (OpW.frz (O.buildSlice rfl rfl rfl (by rfl) (by rfl) (by rfl) (by rfl)) (by (unfold maxLen; omega))) rfl rfl rfl rfl ?_
       refine FA.op (O.call rfl Tryz.func15 rfl rfl rfl (setA_fn 69 [u8 (s 2)] (u8 (s 2)) a (by simp))) rfl rfl rfl rfl ?_
       refine FA.nil ?_
       simp only [chosen, List.nil_append, List.cons_append, List.append_nil]
       (refine AO.store (i := 0) rfl rfl rfl rfl rfl rfl (by rfl) (by rfl) (by rfl) (by (dsimp only [List.set, List.append, List.cons_append, List.nil_append, roB_cells, roI_cells, roO_cells, stA, splice, ofConst, AV.cells, List.map, List.map_cons, List.map_nil, List.take, List.drop, Nat.zero_add, Nat.add_zero, Nat.reduceAdd, Nat.reduceMul, Nat.zero_mul, Value.cells, List.toList_toArray, zerosA, List.replicate, List.flatten, List.append_nil]; done)) (by (dsimp only [List.set, List.append, List.cons_append, List.nil_append, roB_cells, roI_cells, roO_cells, stA, splice, ofConst, AV.cells, List.map, List.map_cons, List.map_nil, List.take, List.drop, Nat.zero_add, Nat.add_zero, Nat.reduceAdd, Nat.reduceMul, Nat.zero_mul, Value.cells, List.toList_toArray, zerosA, List.replicate, List.flatten, List.append_nil]; done)) ?_)
       refine AO.nil ?_
       refine AQ.thenN ?_
       refine AW.seq ?_
       refine AW.seq ?_
       refine AW.regionD 16 (by kernel_rfl) (by kernel_rfl) ?_
       simp only [List.take_succ_cons, List.take_zero, List.drop_succ_cons, List.drop_zero]
       refine FA.op (O.move rfl rfl) rfl rfl rfl rfl ?_
       refine FA.op (O.move rfl rfl) rfl rfl rfl rfl ?_
       refine FA.op (O.move rfl rfl) rfl rfl rfl rfl ?_
       refine FA.op (O.lenR rfl rfl) rfl rfl rfl rfl ?_
       refine FA.op (O.eql rfl rfl rfl (by exact beq_iff_eq.2 (by omega))) rfl rfl rfl rfl ?_
       refine FA.op (O.pickT rfl rfl rfl) rfl rfl rfl rfl ?_
       refine FA.op (O.move rfl rfl) rfl rfl rfl rfl ?_
       refine FA.op (O.move rfl rfl) rfl rfl rfl rfl ?_
       refine FA.op (O.idxR rfl rfl rfl ⟨(by omega), (by omega)⟩) rfl rfl rfl rfl ?_
       refine FA.op (O.loadR rfl rfl (by rfl)) rfl rfl rfl rfl ?_
       refine FA.op (O.move rfl rfl) rfl rfl rfl rfl ?_
       refine FA.op (O.idxL rfl rfl rfl ⟨(by omega), (by omega)⟩) rfl rfl rfl rfl ?_
       refine FA.op (O.load rfl rfl (by repeat (first | exact List.Mem.head _ | refine List.Mem.tail _ ?_)) (by rfl)) rfl rfl rfl rfl ?_
       refine FA.op (O.conv rfl rfl wU8any) rfl rfl rfl rfl ?_
       refine FA.op (O.eql rfl rfl rfl (by rfl)) rfl rfl rfl rfl ?_
       refine FA.op (O.pickT rfl rfl rfl) rfl rfl rfl rfl ?_
       refine FA.nil ?_
       simp only [chosen, List.nil_append, List.cons_append, List.append_nil]
       refine AO.nil ?_
       refine AQ.thenN ?_
       refine AW.split rfl (fun heq => ?_) (fun heq => ?_) <;> (try simp only [decide_eq_true_eq, decide_eq_false_iff_not, beq_iff_eq, beq_eq_false_iff_ne, bne_iff_ne, bne_eq_false_iff_eq, Bool.not_eq_true', Bool.not_eq_false', Bool.not_eq_true, Bool.not_eq_false, ne_eq, Int.not_lt, Int.not_le, Bool.and_eq_true, Bool.or_eq_true, Bool.or_eq_false_iff, Bool.and_eq_false_imp, strOf_toList, Decidable.not_not] at heq)
       ·skip
        have hvs : (v.toNat : Int) = s 2 := by omega
        have hgr : GoodC s L now2 (refC c q a now2) := hgl.set q (Int.le_refl _) (okC_new (k0 := 2) (by omega) hqk (by show ((cd c q).v.toNat : Int) = s 2; rw [← hv]; exact hvs))
        refine AW.seq ?_
        refine AW.region ?_
        refine AO.op (O.move rfl rfl) rfl rfl rfl ?_
        refine AO.op (O.move rfl rfl) rfl rfl rfl ?_
        refine AO.op (O.build rfl rfl rfl (by rfl)) rfl rfl rfl ?_
        refine AO.op (O.move rfl rfl) rfl rfl rfl ?_
        refine AO.opB (O.buildSlice rfl rfl rfl (by rfl) (by rfl) (by rfl) (by rfl)) rfl rfl rfl ?_
        intro B11
        refine AO.g ?_
        (refine G.freezeSl 0 113 rfl rfl ⟨Nat.le_refl _, by unfold maxLen; omega⟩ ?_)
        refine G.unfull 113 rfl ?_
        refine AO.u ?_
        dsimp only [List.eraseIdx]
        (refine AO.op (O.callC rfl Tryz.func15 rfl rfl rfl (setE_fn 67 [] v (by simp)) (by (repeat (first | exact CoeL.nil | refine CoeL.cons Coe.rfl ?_ | refine CoeL.cons Coe.nil ?_ | refine CoeL.cons (Coe.agg ?_) ?_)); done)) rfl rfl rfl ?_)
        refine AO.op (O.move rfl rfl) rfl rfl rfl ?_
        refine AO.op (O.call rfl Tryz.func16 rfl rfl rfl (fromC_fn a (by omega))) rfl rfl rfl ?_
        refine AO.opB (O.buildSlice rfl rfl rfl (by rfl) (by rfl) (by rfl) (by rfl)) rfl rfl rfl ?_
        intro B12
        refine AO.g ?_
        (refine G.freezeSl 0 117 rfl rfl ⟨Nat.le_refl _, by unfold maxLen; omega⟩ ?_)
        refine G.unfull 117 rfl ?_
        refine AO.u ?_
        dsimp only [List.eraseIdx]
        refine AO.op (O.call rfl Tryz.func15 rfl rfl rfl (setA_fn 67 [] v a (by simp))) rfl rfl rfl ?_
        refine AO.op (O.move rfl rfl) rfl rfl rfl ?_
        refine AO.op (O.call rfl Tryz.func34 rfl rfl rfl (href)) rfl rfl rfl ?_
        refine AO.op (O.move rfl rfl) rfl rfl rfl ?_
        refine AO.op (O.extract rfl rfl rfl) rfl rfl rfl ?_
        refine AO.op (O.extract rfl rfl rfl) rfl rfl rfl ?_
        refine AO.op (O.assign rfl rfl) rfl rfl rfl ?_
        refine AO.op (O.assign rfl rfl) rfl rfl rfl ?_
        refine AO.nil ?_
        refine AQ.thenN ?_
        refine AW.seq ?_
        refine AW.seq ?_
        refine AW.region ?_
        refine AO.op (O.move rfl rfl) rfl rfl rfl ?_
        refine AO.op (O.neq rfl rfl rfl (by exact bne_eq_false_iff_eq.2 (by omega))) rfl rfl rfl ?_
        refine AO.nil ?_
        refine AQ.thenN ?_
        refine AW.condF rfl ?_
        refine AW.skip ?_
        refine AQ.thenN ?_
        refine AW.region ?_
        refine AO.op (O.move rfl rfl) rfl rfl rfl ?_
        refine AO.op (O.assign rfl rfl) rfl rfl rfl ?_
        refine AO.nil ?_
        refine AQ.thenN ?_
        refine AW.seq ?_
        refine AW.region ?_
        refine AO.op (O.move rfl rfl) rfl rfl rfl ?_
        refine AO.op (O.move rfl rfl) rfl rfl rfl ?_
        refine AO.op (O.move rfl rfl) rfl rfl rfl ?_
        refine AO.op (O.call rfl Tryz.func32 rfl rfl rfl (hlr)) rfl rfl rfl ?_
        refine AO.op (O.move rfl rfl) rfl rfl rfl ?_
        refine AO.op (O.extract rfl rfl rfl) rfl rfl rfl ?_
        refine AO.op (O.extract rfl rfl rfl) rfl rfl rfl ?_
        (refine AO.store (i := 0) rfl rfl rfl rfl rfl rfl (by rfl) (by rfl) (by rfl) (by (dsimp only [List.set, List.append, List.cons_append, List.nil_append, roB_cells, roI_cells, roO_cells, stA, splice, ofConst, AV.cells, List.map, List.map_cons, List.map_nil, List.take, List.drop, Nat.zero_add, Nat.add_zero, Nat.reduceAdd, Nat.reduceMul, Nat.zero_mul, Value.cells, List.toList_toArray, zerosA, List.replicate, List.flatten, List.append_nil]; done)) (by (dsimp only [List.set, List.append, List.cons_append, List.nil_append, roB_cells, roI_cells, roO_cells, stA, splice, ofConst, AV.cells, List.map, List.map_cons, List.map_nil, List.take, List.drop, Nat.zero_add, Nat.add_zero, Nat.reduceAdd, Nat.reduceMul, Nat.zero_mul, Value.cells, List.toList_toArray, zerosA, List.replicate, List.flatten, List.append_nil]; done)) ?_)
        refine AO.op (O.assign rfl rfl) rfl rfl rfl ?_
        refine AO.nil ?_
        refine AQ.thenN ?_
        refine AW.seq ?_
        refine AW.region ?_
        refine AO.op (O.move rfl rfl) rfl rfl rfl ?_
        refine AO.op (O.not rfl rfl (by rfl)) rfl rfl rfl ?_
        refine AO.nil ?_
        refine AQ.thenN ?_
        refine AW.condF rfl ?_
        have hlv : ([v] : List UInt8).length = 1 := rfl
        refine AW.skip ?_
        refine AQ.thenN ?_
        refine AW.seq ?_
        refine AW.seq ?_
        refine AW.region ?_
        refine AO.op (O.fieldAddr rfl rfl) rfl rfl rfl ?_
        refine AO.op (O.load rfl rfl (by repeat (exact List.Mem.head _)) (by rfl)) rfl rfl rfl ?_
        refine AO.op (O.lenR rfl rfl) rfl rfl rfl ?_
        refine AO.op (O.neq rfl rfl rfl (by exact bne_eq_false_iff_eq.2 (by omega))) rfl rfl rfl ?_
        refine AO.op (O.move rfl rfl) rfl rfl rfl ?_
        refine AO.op (O.move rfl rfl) rfl rfl rfl ?_
        refine AO.op (O.idxL rfl rfl rfl ⟨(by omega), (by omega)⟩) rfl rfl rfl ?_
        refine AO.op (O.load rfl rfl (by repeat (first | exact List.Mem.head _ | refine List.Mem.tail _ ?_)) (by rfl)) rfl rfl rfl ?_
        refine AO.op (O.gtr rfl rfl rfl (by exact bFalse (by omega))) rfl rfl rfl ?_
        refine AO.op (O.pickF rfl rfl rfl) rfl rfl rfl ?_
        refine AO.nil ?_
        refine AQ.thenN ?_
        refine AW.condF rfl ?_
        refine AW.skip ?_
        refine AQ.thenN ?_
        refine AW.seq ?_
        refine AW.region ?_
        refine AO.op (O.fieldAddr rfl rfl) rfl rfl rfl ?_
        refine AO.op (O.load rfl rfl (by repeat (exact List.Mem.head _)) (by rfl)) rfl rfl rfl ?_
        refine AO.op (O.idxR rfl rfl rfl ⟨(by omega), (by omega)⟩) rfl rfl rfl ?_
        refine AO.op (O.loadR rfl rfl (by rfl)) rfl rfl rfl ?_
        refine AO.op (O.conv rfl rfl (by exact wI64 (by omega))) rfl rfl rfl ?_
        refine AO.op (O.assign rfl rfl) rfl rfl rfl ?_
        refine AO.nil ?_
        refine AQ.thenN ?_
        refine AW.seq ?_
        refine AW.region ?_
        refine AO.op (O.move rfl rfl) rfl rfl rfl ?_
        refine AO.op (O.move rfl rfl) rfl rfl rfl ?_
        refine AO.op (O.idxL rfl rfl rfl ⟨(by omega), (by omega)⟩) rfl rfl rfl ?_
        refine AO.op (O.load rfl rfl (by repeat (first | exact List.Mem.head _ | refine List.Mem.tail _ ?_)) (by rfl)) rfl rfl rfl ?_
        refine AO.op (O.gtr rfl rfl rfl (by exact bFalse (by omega))) rfl rfl rfl ?_
        refine AO.op (O.move rfl rfl) rfl rfl rfl ?_
        refine AO.op (O.move rfl rfl) rfl rfl rfl ?_
        refine AO.op (O.move rfl rfl) rfl rfl rfl ?_
        refine AO.op (O.idxL rfl rfl rfl ⟨(by omega), (by omega)⟩) rfl rfl rfl ?_
        refine AO.op (O.load rfl rfl (by repeat (first | exact List.Mem.head _ | refine List.Mem.tail _ ?_)) (by rfl)) rfl rfl rfl ?_
        refine AO.op (O.lss rfl rfl rfl (by exact bFalse (by omega))) rfl rfl rfl ?_
        refine AO.op (O.move rfl rfl) rfl rfl rfl ?_
        refine AO.no rfl rfl rfl ?_
        refine AO.no rfl rfl rfl ?_
        refine AO.no rfl rfl rfl ?_
        refine AO.no rfl rfl rfl ?_
        refine AO.no rfl rfl rfl ?_
        refine AO.no rfl rfl rfl ?_
        refine AO.no rfl rfl rfl ?_
        refine AO.no rfl rfl rfl ?_
        refine AO.no rfl rfl rfl ?_
        refine AO.no rfl rfl rfl ?_
        refine AO.op (O.pickF rfl rfl rfl) rfl rfl rfl ?_
        refine AO.op (O.pickF rfl rfl rfl) rfl rfl rfl ?_
        refine AO.nil ?_
        refine AQ.thenN ?_
        refine AW.condF rfl ?_
        refine AW.skip ?_
        refine AQ.blockN ?_
        refine AQ.blockN ?_
        refine AQ.loopKN _ _ _ (by omega) (⟨_, now2, _, s, L, V0, V1, V2, b4, by omega, hsr, hgr, hs.step hleft (by omega), hV0, hV1, hV2, rfl, rfl, rfl⟩) (by repeat (first | exact envNil | refine envCons rfl ?_)) (by repeat (first | exact envNil | refine envCons rfl ?_)) (by repeat (first | exact subPnil | refine subPcons 2 rfl ?_))
       ·skip
        refine AW.seq ?_
        refine AW.region ?_
        refine AO.op (O.move rfl rfl) rfl rfl rfl ?_
        refine AO.op (O.move rfl rfl) rfl rfl rfl ?_
        (refine AO.op (O.loadK rfl rfl (by repeat (exact List.Mem.head _)) (by (dsimp only [List.set, List.append, List.cons_append, List.nil_append, roB_cells, roI_cells, roO_cells, stA, splice, ofConst, AV.cells, List.map, List.map_cons, List.map_nil, List.take, List.drop, Nat.zero_add, Nat.add_zero, Nat.reduceAdd, Nat.reduceMul, Nat.zero_mul, Value.cells, List.toList_toArray, zerosA, List.replicate, List.flatten, List.append_nil]; done)) (by rfl)) rfl rfl rfl ?_)
        refine AO.op (O.move rfl rfl) rfl rfl rfl ?_
        refine AO.op (O.call rfl Tryz.func35 rfl rfl rfl (insert1_fn c 99 (u8 (s 2)) q a now2 hc hp hq ha30 hn2)) rfl rfl rfl ?_
        refine AO.op (O.move rfl rfl) rfl rfl rfl ?_
        refine AO.op (O.extract rfl rfl rfl) rfl rfl rfl ?_
        refine AO.op (O.extract rfl rfl rfl) rfl rfl rfl ?_
        refine AO.op (O.assign rfl rfl) rfl rfl rfl ?_
        refine AO.op (O.assign rfl rfl) rfl rfl rfl ?_
        refine AO.nil ?_
        refine AQ.thenN ?_
        refine AW.seq ?_
        refine AW.seq ?_
        refine AW.region ?_
        refine AO.op (O.move rfl rfl) rfl rfl rfl ?_
        refine AO.op (O.neq rfl rfl rfl (by exact bne_eq_false_iff_eq.2 (by omega))) rfl rfl rfl ?_
        refine AO.nil ?_
        refine AQ.thenN ?_
        refine AW.condF rfl ?_
        refine AW.skip ?_
        refine AQ.thenN ?_
        refine AW.region ?_
        refine AO.op (O.move rfl rfl) rfl rfl rfl ?_
        refine AO.op (O.assign rfl rfl) rfl rfl rfl ?_
        refine AO.nil ?_
        refine AQ.thenN ?_
        refine AW.seq ?_
        refine AW.region ?_
        refine AO.op (O.move rfl rfl) rfl rfl rfl ?_
        refine AO.op (O.move rfl rfl) rfl rfl rfl ?_
        refine AO.op (O.move rfl rfl) rfl rfl rfl ?_
        refine AO.op (O.call rfl Tryz.func32 rfl rfl rfl (hli)) rfl rfl rfl ?_
        refine AO.op (O.move rfl rfl) rfl rfl rfl ?_
        refine AO.op (O.extract rfl rfl rfl) rfl rfl rfl ?_
        refine AO.op (O.extract rfl rfl rfl) rfl rfl rfl ?_
        (refine AO.store (i := 0) rfl rfl rfl rfl rfl rfl (by rfl) (by rfl) (by rfl) (by (dsimp only [List.set, List.append, List.cons_append, List.nil_append, roB_cells, roI_cells, roO_cells, stA, splice, ofConst, AV.cells, List.map, List.map_cons, List.map_nil, List.take, List.drop, Nat.zero_add, Nat.add_zero, Nat.reduceAdd, Nat.reduceMul, Nat.zero_mul, Value.cells, List.toList_toArray, zerosA, List.replicate, List.flatten, List.append_nil]; done)) (by (dsimp only [List.set, List.append, List.cons_append, List.nil_append, roB_cells, roI_cells, roO_cells, stA, splice, ofConst, AV.cells, List.map, List.map_cons, List.map_nil, List.take, List.drop, Nat.zero_add, Nat.add_zero, Nat.reduceAdd, Nat.reduceMul, Nat.zero_mul, Value.cells, List.toList_toArray, zerosA, List.replicate, List.flatten, List.append_nil]; done)) ?_)
        refine AO.op (O.assign rfl rfl) rfl rfl rfl ?_
        refine AO.nil ?_
        refine AQ.thenN ?_
        refine AW.seq ?_
        refine AW.region ?_
        refine AO.op (O.move rfl rfl) rfl rfl rfl ?_
        refine AO.op (O.not rfl rfl (by rfl)) rfl rfl rfl ?_
        refine AO.nil ?_
        refine AQ.thenN ?_
        refine AW.condF rfl ?_
        have hlv : ([u8 (s 2)] : List UInt8).length = 1 := rfl
        refine AW.skip ?_
        refine AQ.thenN ?_
        refine AW.seq ?_
        refine AW.seq ?_
        refine AW.region ?_
        refine AO.op (O.fieldAddr rfl rfl) rfl rfl rfl ?_
        refine AO.op (O.load rfl rfl (by repeat (exact List.Mem.head _)) (by rfl)) rfl rfl rfl ?_
        refine AO.op (O.lenR rfl rfl) rfl rfl rfl ?_
        refine AO.op (O.neq rfl rfl rfl (by exact bne_eq_false_iff_eq.2 (by omega))) rfl rfl rfl ?_
        refine AO.op (O.move rfl rfl) rfl rfl rfl ?_
        refine AO.op (O.move rfl rfl) rfl rfl rfl ?_
        refine AO.op (O.idxL rfl rfl rfl ⟨(by omega), (by omega)⟩) rfl rfl rfl ?_
        refine AO.op (O.load rfl rfl (by repeat (first | exact List.Mem.head _ | refine List.Mem.tail _ ?_)) (by rfl)) rfl rfl rfl ?_
        refine AO.op (O.gtr rfl rfl rfl (by exact bFalse (by omega))) rfl rfl rfl ?_
        refine AO.op (O.pickF rfl rfl rfl) rfl rfl rfl ?_
        refine AO.nil ?_
        refine AQ.thenN ?_
        refine AW.condF rfl ?_
        refine AW.skip ?_
        refine AQ.thenN ?_
        refine AW.seq ?_
        refine AW.region ?_
        refine AO.op (O.fieldAddr rfl rfl) rfl rfl rfl ?_
        refine AO.op (O.load rfl rfl (by repeat (exact List.Mem.head _)) (by rfl)) rfl rfl rfl ?_
        refine AO.op (O.idxR rfl rfl rfl ⟨(by omega), (by omega)⟩) rfl rfl rfl ?_
        refine AO.op (O.loadR rfl rfl (by rfl)) rfl rfl rfl ?_
        refine AO.op (O.conv rfl rfl (by exact wI64 (by omega))) rfl rfl rfl ?_
        refine AO.op (O.assign rfl rfl) rfl rfl rfl ?_
        refine AO.nil ?_
        refine AQ.thenN ?_
        refine AW.seq ?_
        refine AW.region ?_
        refine AO.op (O.move rfl rfl) rfl rfl rfl ?_
        refine AO.op (O.move rfl rfl) rfl rfl rfl ?_
        refine AO.op (O.idxL rfl rfl rfl ⟨(by omega), (by omega)⟩) rfl rfl rfl ?_
        refine AO.op (O.load rfl rfl (by repeat (first | exact List.Mem.head _ | refine List.Mem.tail _ ?_)) (by rfl)) rfl rfl rfl ?_
        refine AO.op (O.gtr rfl rfl rfl (by exact bFalse (by omega))) rfl rfl rfl ?_
        refine AO.op (O.move rfl rfl) rfl rfl rfl ?_
        refine AO.op (O.move rfl rfl) rfl rfl rfl ?_
        refine AO.op (O.move rfl rfl) rfl rfl rfl ?_
        refine AO.op (O.idxL rfl rfl rfl ⟨(by omega), (by omega)⟩) rfl rfl rfl ?_
        refine AO.op (O.load rfl rfl (by repeat (first | exact List.Mem.head _ | refine List.Mem.tail _ ?_)) (by rfl)) rfl rfl rfl ?_
        refine AO.op (O.lss rfl rfl rfl (by exact bFalse (by omega))) rfl rfl rfl ?_
        refine AO.op (O.move rfl rfl) rfl rfl rfl ?_
        refine AO.no rfl rfl rfl ?_
        refine AO.no rfl rfl rfl ?_
        refine AO.no rfl rfl rfl ?_
        refine AO.no rfl rfl rfl ?_
        refine AO.no rfl rfl rfl ?_
        refine AO.no rfl rfl rfl ?_
        refine AO.no rfl rfl rfl ?_
        refine AO.no rfl rfl rfl ?_
        refine AO.no rfl rfl rfl ?_
        refine AO.no rfl rfl rfl ?_
        refine AO.op (O.pickF rfl rfl rfl) rfl rfl rfl ?_
        refine AO.op (O.pickF rfl rfl rfl) rfl rfl rfl ?_
        refine AO.nil ?_
        refine AQ.thenN ?_
        refine AW.condF rfl ?_
        refine AW.skip ?_
        refine AQ.blockN ?_
        refine AQ.blockN ?_
        refine AQ.loopKN _ _ _ (by omega) (⟨_, now2, _, s, L, V0, V1, V2, b4, by omega, hsi, hgi, hs.step hleft (by omega), hV0, hV1, hV2, rfl, rfl, rfl⟩) (by repeat (first | exact envNil | refine envCons rfl ?_)) (by repeat (first | exact envNil | refine envCons rfl ?_)) (by repeat (first | exact subPnil | refine subPcons 2 rfl ?_))
      skip
     skip
   skip
  ·skip
   refine AW.exit ?_
   refine AQ.thenX ?_
   refine AQ.loopX ?_
   refine AQ.blockX rfl ?_
   refine AQ.thenN ?_
   refine AW.seq ?_
   refine AW.region ?_
   refine AO.callK hK notFoot_nil rfl rfl Tryz.func8 rfl rfl rfl rfl rfl (awakeT_fn) ?_
   refine AO.op (O.assign rfl rfl) rfl rfl rfl ?_
   refine AO.nil ?_
   refine AQ.thenN ?_
   refine AW.ret ?_
   refine AQ.ret1 rfl rfl ⟨_, List.nil_sublist _, .nil⟩ (⟨rfl, rfl⟩)
end Go.Proofs.YtoonnnifelnaiaaGreatDoor.By

namespace Go.Proofs.YtoonnnifelnaiaaGreatDoor.A
open Go.ChangeShapes Go.WideShapes Go.ChangeAt Go.RowKit Go.Deep L
set_option linter.unusedVariables false
set_option maxRecDepth 20000
set_option linter.unusedSimpArgs false

theorem own : ownKnob Tryz.prog.godebug = none := by kernel_rfl
theorem kids : Kids Tryz.prog (· < Tryz.prog.types.size) := kids_rows (by kernel_rfl) (by kernel_rfl)
theorem full : ∀ t e, t < Tryz.prog.types.size → Tryz.prog.underlying t = some (.slice e) → 0 < Tryz.prog.cellsOf e := slices_full_of Tryz.prog (by kernel_rfl)

theorem sameAt_ext {W W' : World} (h : Ext W W') (p : MemPlace) (hp : p.block < W.heap.size) : W.sameAt W' p := by
 have hb : W'.heap[p.block]? = W.heap[p.block]? := h.block _ hp (fun hh => hh)
 cases p with
 | cell b off => exact World.cell?_of_block (w := W) (a := ⟨b, off, none⟩) hb
 | map b => exact hb

section
variable {H : Type} {enc : TypeId × Value → H}
theorem trodAll_carry {P : Program} {W W' : World} {base : Nat} {spare : Nat → Bool} {held : Bool} : ∀ {ts : List TypeId} {vs : List Value} {ds : List (DataW H)} {ps : List MemPlace},
  DataW.TrodAll enc P W base spare held ts vs ds ps → (∀ p ∈ ps, W.sameAt W' p) → DataW.TrodAll enc P W' base spare held ts vs ds ps
 | [], [], [], _, h, _ => h
 | _ :: _, _ :: _, _ :: _, _, ⟨p, q, ⟨n, h1⟩, h2, e⟩, hs => ⟨p, q, ⟨n, DataW.trod_carry n _ _ _ h1 (fun x hx => hs x (by rw [e]; exact List.mem_append_left _ hx))⟩, trodAll_carry h2 (fun x hx => hs x (by rw [e]; exact List.mem_append_right _ hx)), e⟩

/-- A law: it returned true, and nothing that was there has turned. -/
theorem lawPost {fn : Func} {s : ChangeSpec} {W W' : World} {args : Array Value} {ds gs : List (DataW H)} {before : List MemPlace} {bt : TypeId}
  (hW : DataW.Whole enc Tryz.prog fn.params.toList s.vars false W args.toList ds gs before) (hv : s.vars = []) (hfn : s.fn H (ds ++ gs) = { results := [.lit (.bool true)], args := ds }) (hres : fn.resultTypes = #[bt]) (hbt : Tryz.prog.underlying bt = some .bool)
  (hpar : ∀ t ∈ fn.params.toList, t < Tryz.prog.types.size) (hE : Ext W W') : s.post enc Tryz.prog fn false true false false W args (.bool true) W' := by
 have hold : ∀ p ∈ before, (fun b => decide (b < W.heap.size)) p.block = true := fun p hp => by simpa using hW.lt p hp
 have hlt := hW.lt
 have hW' := hW
 obtain ⟨pa, pv, hA, hV, rfl, hz, hn⟩ := hW
 rw [hv] at hV
 obtain ⟨rfl, rfl⟩ := trodVars_none hV
 have hA' : DataW.TrodAll enc Tryz.prog W' 0 (fun _ => true) true fn.params.toList args.toList ds pa := trodAll_carry hA fun p hp => sameAt_ext hE p (hlt p (List.mem_append_left _ hp))
 have hargs : ∀ sp : Nat → Bool, (∀ p ∈ pa ++ [], sp p.block = true) → DataW.TrodAll enc Tryz.prog W' 0 sp true fn.params.toList args.toList ds pa := fun sp hsp =>
  DataW.TrodAll.respare kids full hpar hA' fun p hp => hsp p (by simpa using hp)
 have hres' : ∀ (b : Nat) (sp : Nat → Bool) (hd : Bool), DataW.TrodAll enc Tryz.prog W' b sp hd fn.resultTypes.toList ((Value.bool true).resultList fn.resultTypes.size) [.lit (.bool true)] [] := fun b sp hd => by
  rw [hres]; exact trodAll_cons_mk (shut_bool hbt true) trodAll_mk0
 refine ⟨ds, [], pa ++ [], [], pa, [], hW', by rw [hfn]; exact hres' _ _ _, by rw [hfn]; exact hargs _ hold, by rw [hfn, hv]; rfl, World.keptBut_mono (fun p hp => ⟨hp, ?_⟩) ((hE.toBelow).frame (· ∈ pa ++ [])), fun h => by cases h⟩
 exact Or.inr (by simpa using hp)

/-! ### How arguments read -/

def Old (W : World) : Nat → Prop := fun b => b < W.heap.size

variable {P : Program} {W : World}
/-- A reading of cells of a type as these. -/
theorem rd_int {base : Nat} {spare : Nat → Bool} {held : Bool} {t : TypeId} {k : IntKind} (ht : P.underlying t = some (.int k)) {n : Nat} {cs : List Value} {x : DataW H × List MemPlace} (h : DataW.trod enc P W base spare held n t cs = some x) :
  ∃ z : Int, (Lit.int k z).wf = true ∧ RelL (Old W) W [.val (.int k z)] cs := by
 cases n with
 | zero => simp [DataW.trod] at h
 | succ n =>
  obtain ⟨z, rfl, _, hw⟩ := DataW.trod_int ht h
  exact ⟨z, hw, RelL.cons (.val _) RelL.nil⟩

theorem rd_slice {α : Type} {enc' : α → List AV} {good : α → Prop} {base : Nat} {spare : Nat → Bool} {held : Bool} {t e : TypeId} (ht : P.underlying t = some (.slice e)) (hsz : ∀ a, (enc' a).length = P.cellsOf e) (hpos : 0 < P.cellsOf e)
  (he : ∀ (n : Nat) (cs : List Value) (x : DataW H × List MemPlace), cs.length = P.cellsOf e → DataW.trod enc P W base spare held n e cs = some x → ∃ a, good a ∧ RelL (Old W) W (enc' a) cs)
  {n : Nat} {cs : List Value} {x : DataW H × List MemPlace} (h : DataW.trod enc P W base spare held n t cs = some x) :
  ∃ l : List α, (∀ a ∈ l, good a) ∧ l.length ≤ maxLen ∧ RelL (Old W) W [.ro false l.length (l.flatMap enc')] cs := by
 rcases open_slice ht h with ⟨rfl, -⟩ | ⟨ad, len, cap, m, n', D, Pl, rfl, hb, hl, hm, hmm, hx, hi⟩
 ·exact ⟨[], fun _ h => (by cases h), Nat.zero_le _, RelL.cons (.emp _ _ _ (fun h => by cases h) (Nat.zero_le _)) RelL.nil⟩
 ·have hlm : len ≤ m := by rw [hmm]; split <;> omega
  have hex : ∀ i : Nat, ∃ a : Option α, i < len → ∃ a', a = some a' ∧ good a' ∧ ∃ cs', W.cells? base (ad.add (i * P.cellsOf e)) (P.cellsOf e) = some cs' ∧ RelL (Old W) W (enc' a') cs' := fun i => by
   by_cases hil : i < len
   ·obtain ⟨cs', hc, htr⟩ := hi i (by omega)
    obtain ⟨_, hcl, _⟩ := World.cells?_some hc
    obtain ⟨a, hg, hr⟩ := he _ _ _ hcl htr
    exact ⟨some a, fun _ => ⟨a, rfl, hg, cs', hc, hr⟩⟩
   ·exact ⟨none, fun h => absurd h hil⟩
  obtain ⟨f, hf⟩ := Classical.axiomOfChoice hex
  by_cases hlen0 : len = 0
  ·subst hlen0
   exact ⟨[], fun _ h => (by cases h), Nat.zero_le _, RelL.cons (.emp _ _ _ (fun h => by cases h) hm) RelL.nil⟩
  ·obtain ⟨a0, _, _⟩ := hf 0 (by omega)
   let g : Nat → α := fun i => (f i).getD a0
   have hg : ∀ i, i < len → good (g i) ∧ ∃ cs', W.cells? base (ad.add (i * P.cellsOf e)) (P.cellsOf e) = some cs' ∧ RelL (Old W) W (enc' (g i)) cs' := fun i hi' => by
    obtain ⟨a', ha', h1, h2⟩ := hf i hi'
    have : g i = a' := by simp [g, ha']
    rw [this]; exact ⟨h1, h2⟩
   have hflat : ∀ (len : Nat), (((List.range len).map g).flatMap enc').length = len * P.cellsOf e := by
    intro len
    induction len with
    | zero => simp
    | succ k ih => rw [List.range_succ, List.map_append, List.flatMap_append, List.length_append, ih]; simp [hsz, Nat.add_mul]
   have hflatget : ∀ (len i j : Nat), i < len → j < P.cellsOf e → (((List.range len).map g).flatMap enc')[i * P.cellsOf e + j]? = (enc' (g i))[j]? := by
    intro len
    induction len with
    | zero => intro i j h; omega
    | succ k ih =>
     intro i j h hj
     rw [List.range_succ, List.map_append, List.flatMap_append, List.getElem?_append]
     by_cases hik : i < k
     ·have h1 : (i + 1) * P.cellsOf e ≤ k * P.cellsOf e := Nat.mul_le_mul_right _ (by omega)
      rw [Nat.add_mul] at h1
      rw [if_pos (by rw [hflat]; omega)]
      exact ih i j hik hj
     ·have : i = k := by omega
      subst this
      rw [if_neg (by rw [hflat]; omega), hflat]
      simp
   have hblk : ad.spot = none ∧ ad.block < W.heap.size := by
    obtain ⟨_, cs', hc, _⟩ := hg 0 (by omega)
    obtain ⟨_, hcl, hat⟩ := World.cells?_some hc
    have h0 := hat 0 hpos
    simp only [Nat.zero_mul] at h0
    have h1 : W.cell? ad ≠ none := by
     intro hn
     rw [show (ad.add 0).add 0 = ad by simp [Addr.add]] at h0
     rw [hn] at h0
     have := (List.getElem?_eq_none_iff.1 h0.symm)
     omega
    refine ⟨?_, ?_⟩
    ·cases hsp : ad.spot with
     | none => rfl
     | some _ => exfalso; apply h1; unfold World.cell?; split <;> simp [hsp]
    ·cases hc : W.cell? ad with
     | none => exact absurd hc h1
     | some u => exact World.block_lt_of_cell? W ad hc
   obtain ⟨b, off, sp⟩ := ad
   obtain ⟨rfl, hblt⟩ := hblk
   have hcell : ∀ i j, i < len → j < P.cellsOf e → ∃ u, W.cell? ⟨b, off + (i * P.cellsOf e + j), none⟩ = some u ∧ ∃ x, (enc' (g i))[j]? = some x ∧ RelV (Old W) W x u := fun i j hi' hj => by
    obtain ⟨_, cs', hc, hr⟩ := hg i hi'
    obtain ⟨_, hcl, hat⟩ := World.cells?_some hc
    have h0 := hat j hj
    rw [addr_add, addr_add] at h0
    have hjl : j < cs'.length := by omega
    have hjx : j < (enc' (g i)).length := by rw [hsz]; exact hj
    refine ⟨cs'[j], by rw [← Nat.add_assoc, h0]; simp [hjl], (enc' (g i))[j], by simp [hjx], ?_⟩
    have := hr.2 j hjx
    simpa [hjl] using this
   refine ⟨(List.range len).map g, fun a ha => ?_, by simp; omega, RelL.cons ?_ RelL.nil⟩
   ·obtain ⟨i, hi', rfl⟩ := List.mem_map.1 ha
    exact (hg i (List.mem_range.1 hi')).1
   ·rw [List.length_map, List.length_range]
    have hq : ∀ j, j < (((List.range len).map g).flatMap enc').length → ∃ u, W.cell? ⟨b, off + j, none⟩ = some u ∧ ∃ x, (((List.range len).map g).flatMap enc')[j]? = some x ∧ RelV (Old W) W x u := fun j hj => by
     rw [hflat] at hj
     have h1 : j / P.cellsOf e < len := (Nat.div_lt_iff_lt_mul hpos).2 hj
     have h2 := Nat.mod_lt j hpos
     have h3 : j / P.cellsOf e * P.cellsOf e + j % P.cellsOf e = j := by rw [Nat.mul_comm]; exact Nat.div_add_mod j _
     obtain ⟨u, hu, x, hx', hr⟩ := hcell (j / P.cellsOf e) (j % P.cellsOf e) h1 h2
     rw [h3] at hu
     refine ⟨u, hu, x, ?_, hr⟩
     have := hflatget len _ _ h1 h2
     rw [h3] at this
     rw [this, hx']
    refine .ro false len _ b off cap (fun j => (W.cell? ⟨b, off + j, none⟩).getD undef) hblt (fun j hj => ?_) (fun j hj => ?_) hl hm (fun h => by cases h)
    ·obtain ⟨u, hu, _⟩ := hq j hj
     rw [hu]; rfl
    ·obtain ⟨u, hu, x, hx', hr⟩ := hq j hj
     rw [hu]
     simp only [Option.getD_some]
     have : x = (((List.range len).map g).flatMap enc')[j] := by
      rw [List.getElem?_eq_getElem hj] at hx'; exact (Option.some.inj hx').symm
     rw [← this]; exact hr

theorem flatMap_one {α : Type} (f : α → AV) (l : List α) : l.flatMap (fun a => [f a]) = l.map f := by
 induction l with
 | nil => rfl
 | cons a l ih => simp [List.flatMap_cons, ih]

theorem rd_ints {base : Nat} {spare : Nat → Bool} {held : Bool} {t e : TypeId} {k : IntKind} (ht : P.underlying t = some (.slice e)) (he : P.underlying e = some (.int k)) (h1 : P.cellsOf e = 1) {n : Nat} {cs : List Value} {x : DataW H × List MemPlace} (h : DataW.trod enc P W base spare held n t cs = some x) :
  ∃ l : List Int, (∀ z ∈ l, (Lit.int k z).wf = true) ∧ l.length ≤ maxLen ∧ RelL (Old W) W [.ro false l.length (intsA k l)] cs := by
 obtain ⟨l, h2, h3, h4⟩ := rd_slice (enc' := fun z : Int => [.val (.int k z)]) (good := fun z => (Lit.int k z).wf = true) ht (fun _ => h1.symm) (by omega) (fun n cs x _ h => rd_int he h) h
 rw [flatMap_one] at h4
 exact ⟨l, h2, h3, h4⟩
theorem rd_bytes {base : Nat} {spare : Nat → Bool} {held : Bool} {t e : TypeId} (ht : P.underlying t = some (.slice e)) (he : P.underlying e = some (.int .u8)) (h1 : P.cellsOf e = 1) {n : Nat} {cs : List Value} {x : DataW H × List MemPlace} (h : DataW.trod enc P W base spare held n t cs = some x) :
  ∃ l : List UInt8, l.length ≤ maxLen ∧ RelL (Old W) W [roB l] cs := by
 obtain ⟨l, h2, h3, h4⟩ := rd_ints ht he h1 h
 have hb : ∃ m : List UInt8, l = m.map fun b => ((b.toNat : Nat) : Int) := by
  clear h h3 h4
  induction l with
  | nil => exact ⟨[], rfl⟩
  | cons z l ih =>
   obtain ⟨m, rfl⟩ := ih fun z hz => h2 z (List.mem_cons_of_mem _ hz)
   have hz := h2 z (List.mem_cons_self ..)
   have hz' : 0 ≤ z ∧ z ≤ 255 := by simpa [Lit.wf, IntKind.min, IntKind.max, IntKind.signed, IntKind.bits] using hz
   refine ⟨UInt8.ofNat z.toNat :: m, ?_⟩
   simp only [List.map_cons, List.cons.injEq, and_true]
   rw [UInt8.toNat_ofNat_of_lt' (by simp [UInt8.size]; omega)]
   omega
 obtain ⟨m, rfl⟩ := hb
 refine ⟨m, by simpa using h3, ?_⟩
 simpa [roB, bytesA, intsA, Function.comp_def] using h4

theorem relV_of_one {R : Nat → Prop} {a : AV} {v : Value} (hc : v.cells.toList = [v]) (h : RelL R W [a] v.cells.toList) : RelV R W a v := by
 rw [hc] at h
 obtain ⟨u, r, he, h1, _⟩ := h.uncons
 cases he
 exact h1
end
end Go.Proofs.YtoonnnifelnaiaaGreatDoor.A

namespace Go.Proofs.YtoonnnifelnaiaaGreatDoor.A
open Go.ChangeShapes Go.WideShapes Go.ChangeAt Go.RowKit L
set_option linter.unusedVariables false
set_option maxRecDepth 20000
set_option linter.unusedSimpArgs false
section
variable {P : Program}

/-- Arguments of this type read as one of these. -/
def Reads (P : Program) (t : TypeId) (φ : AV → Prop) : Prop :=
 ∀ (H : Type) (enc : TypeId × Value → H) (W : World) (base b0 : Nat) (spare : Nat → Bool) (held : Bool) (v : Value) (d : DataW H) (p : List MemPlace),
  Value.okWide P W .any b0 t v → DataW.Trod enc P W base spare held t v d p → ∃ x, φ x ∧ RelV (Old W) W x v
/-- Cells of this type read as one of these. -/
structure RdC (P : Program) (t : TypeId) {α : Type} (f : α → List AV) (good : α → Prop) : Prop where
 len : ∀ a, (f a).length = P.cellsOf t
 rd : ∀ (H : Type) (enc : TypeId × Value → H) (W : World) (base : Nat) (spare : Nat → Bool) (held : Bool) (n : Nat) (cs : List Value) (x : DataW H × List MemPlace),
  DataW.trod enc P W base spare held n t cs = some x → ∃ a, good a ∧ RelL (Old W) W (f a) cs

theorem okw_int {W : World} {r : Reach} {b : Nat} {t : TypeId} {k : IntKind} (ht : P.underlying t = some (.int k)) {v : Value} (h : Value.okWide P W r b t v) : v.cells.toList = [v] := by
 cases v <;> simp [Value.okWide, ht, Cell.okWide, Cell.ok] at h <;> rfl
theorem okw_slice {W : World} {r : Reach} {b : Nat} {t e : TypeId} (ht : P.underlying t = some (.slice e)) {v : Value} (h : Value.okWide P W r b t v) : v.cells.toList = [v] := by
 cases v <;> simp [Value.okWide, ht, Cell.okWide, Cell.ok] at h <;> rfl
theorem okw_bool {W : World} {r : Reach} {b : Nat} {t : TypeId} (ht : P.underlying t = some .bool) {v : Value} (h : Value.okWide P W r b t v) : v.cells.toList = [v] := by
 cases v <;> simp [Value.okWide, ht, Cell.okWide, Cell.ok] at h <;> rfl
theorem RelL.glue {R : Nat → Prop} {W : World} {xs ys : List AV} {cs : List Value} {o k : Nat} (h1 : RelL R W xs ((cs.drop o).take k)) (h2 : RelL R W ys (cs.drop (o + k))) : RelL R W (xs ++ ys) (cs.drop o) := by
 have := h1.app h2
 rwa [show (cs.drop o).take k ++ cs.drop (o + k) = cs.drop o by rw [← List.drop_drop, List.take_append_drop]] at this
theorem RdC.int {t : TypeId} {k : IntKind} (ht : P.underlying t = some (.int k)) (h1 : P.cellsOf t = 1) : RdC P t (fun z : Int => [.val (.int k z)]) (fun z => (Lit.int k z).wf = true) :=
 ⟨fun _ => h1.symm, fun H enc W base spare held n cs x h => rd_int ht h⟩
theorem RdC.bool {t : TypeId} (ht : P.underlying t = some .bool) (h1 : P.cellsOf t = 1) : RdC P t (fun z : Bool => [.val (.bool z)]) (fun _ => True) :=
 ⟨fun _ => h1.symm, fun H enc W base spare held n cs x h => by
  obtain ⟨b, rfl, _⟩ := DataW.trod_bool ht h
  exact ⟨b, trivial, RelL.cons (.val _) RelL.nil⟩⟩
theorem RdC.string {t : TypeId} (ht : P.underlying t = some .string) (h1 : P.cellsOf t = 1) : RdC P t (fun s : ByteArray => [.val (.string s)]) (fun s => s.size ≤ maxLen) :=
 ⟨fun _ => h1.symm, fun H enc W base spare held n cs x h => by
  obtain ⟨b, rfl, _, hs⟩ := DataW.trod_string ht h
  exact ⟨b, hs, RelL.cons (.val _) RelL.nil⟩⟩
theorem RdC.slice {t e : TypeId} {α : Type} {f : α → List AV} {good : α → Prop} (ht : P.underlying t = some (.slice e)) (h1 : P.cellsOf t = 1) (hpos : 0 < P.cellsOf e) (h : RdC P e f good) :
  RdC P t (fun l : List α => [.ro false l.length (l.flatMap f)]) (fun l => (∀ a ∈ l, good a) ∧ l.length ≤ maxLen) :=
 ⟨fun _ => h1.symm, fun H enc W base spare held n cs x hx => by
  obtain ⟨l, h2, h3, h4⟩ := rd_slice ht h.len hpos (fun n cs x _ hx => h.rd H enc W base spare held n cs x hx) hx
  exact ⟨l, ⟨h2, h3⟩, h4⟩⟩
theorem RdC.bytes {t e : TypeId} (ht : P.underlying t = some (.slice e)) (he : P.underlying e = some (.int .u8)) (h1 : P.cellsOf t = 1) (h2 : P.cellsOf e = 1) : RdC P t (fun l : List UInt8 => [roB l]) (fun l => l.length ≤ maxLen) :=
 ⟨fun _ => h1.symm, fun H enc W base spare held n cs x hx => rd_bytes ht he h2 hx⟩
theorem RdC.ints {t e : TypeId} {k : IntKind} (ht : P.underlying t = some (.slice e)) (he : P.underlying e = some (.int k)) (h1 : P.cellsOf t = 1) (h2 : P.cellsOf e = 1) :
  RdC P t (fun l : List Int => [.ro false l.length (intsA k l)]) (fun l => (∀ z ∈ l, (Lit.int k z).wf = true) ∧ l.length ≤ maxLen) :=
 ⟨fun _ => h1.symm, fun H enc W base spare held n cs x hx => by
  obtain ⟨l, h3, h4, h5⟩ := rd_ints ht he h2 hx
  exact ⟨l, ⟨h3, h4⟩, h5⟩⟩
/-- Fields, one after the other, from cell o on. -/
structure FR (P : Program) (fs : List Field) (o m : Nat) {α : Type} (f : α → List AV) (good : α → Prop) : Prop where
 len : ∀ a, (f a).length = m
 rd : ∀ (H : Type) (enc : TypeId × Value → H) (W : World) (base : Nat) (spare : Nat → Bool) (held : Bool) (cs : List Value), cs.length = o + m →
  (∀ fd ∈ fs, ∃ (n : Nat) (y : DataW H × List MemPlace), DataW.trod enc P W base spare held n fd.type ((cs.drop fd.offset).take (P.cellsOf fd.type)) = some y) → ∃ a, good a ∧ RelL (Old W) W (f a) (cs.drop o)
theorem FR.nil {o : Nat} : FR P [] o 0 (fun _ : Unit => []) (fun _ => True) :=
 ⟨fun _ => rfl, fun H enc W base spare held cs hl _ => ⟨(), trivial, by rw [List.drop_of_length_le (by omega)]; exact RelL.nil⟩⟩
theorem FR.cons {fd : Field} {fs : List Field} {o k m : Nat} {α β : Type} {f : α → List AV} {good : α → Prop} {g : β → List AV} {good' : β → Prop} (h : RdC P fd.type f good) (ho : fd.offset = o) (hk : P.cellsOf fd.type = k) (hs : FR P fs (o + k) m g good') :
  FR P (fd :: fs) o (k + m) (fun p : α × β => f p.1 ++ g p.2) (fun p => good p.1 ∧ good' p.2) :=
 ⟨fun p => by rw [List.length_append, h.len, hs.len, hk], fun H enc W base spare held cs hl hall => by
  obtain ⟨n, y, h1⟩ := hall fd (List.mem_cons_self ..)
  rw [ho, hk] at h1
  obtain ⟨a, h2, h3⟩ := h.rd H enc W base spare held _ _ _ h1
  obtain ⟨b, h4, h5⟩ := hs.rd H enc W base spare held cs (by omega) (fun fd hfd => hall fd (List.mem_cons_of_mem _ hfd))
  exact ⟨(a, b), ⟨h2, h4⟩, RelL.glue h3 h5⟩⟩
theorem RdC.struct {t : TypeId} {fs : List Field} {m : Nat} {α : Type} {f : α → List AV} {good : α → Prop} (ht : P.underlying t = some (.struct fs.toArray)) (hm : P.cellsOf t = m) (h : FR P fs 0 m f good) : RdC P t f good :=
 ⟨fun a => by rw [h.len, hm], fun H enc W base spare held n cs x hx => by
  obtain ⟨xs, n', _, _, hl, hlen, hf⟩ := DataW.trod_struct ht hx
  obtain ⟨a, h1, h2⟩ := h.rd H enc W base spare held cs (by omega) (fun fd hfd => by
   obtain ⟨i, hi, rfl⟩ := List.getElem_of_mem hfd
   have h0 := hf i fs[i] (by simp [hi])
   have hxi : i < xs.length := by rw [hlen]; simpa using hi
   rw [List.getElem?_eq_getElem hxi] at h0
   exact ⟨n', _, h0⟩)
  exact ⟨a, h1, by simpa using h2⟩⟩
theorem RdC.map {t : TypeId} {α β : Type} {f : α → List AV} {good : α → Prop} {g : β → List AV} {good' : β → Prop} (h : RdC P t f good) (φ : α → β) (hφ : ∀ a, good a → good' (φ a) ∧ f a = g (φ a)) (hl : ∀ b, (g b).length = P.cellsOf t) : RdC P t g good' :=
 ⟨hl, fun H enc W base spare held n cs x hx => by
  obtain ⟨a, h1, h2⟩ := h.rd H enc W base spare held n cs x hx
  exact ⟨φ a, (hφ a h1).1, (hφ a h1).2 ▸ h2⟩⟩
theorem RdC.reads {t : TypeId} {α : Type} {f : α → List AV} {good : α → Prop} (h : RdC P t f good) (g : α → AV) (hg : ∀ a, f a = [g a]) (hw : ∀ (W : World) (b : Nat) (v : Value), Value.okWide P W .any b t v → v.cells.toList = [v]) : Reads P t (fun x => ∃ a, good a ∧ x = g a) :=
 fun H enc W base b0 spare held v d p hv ⟨n, hx⟩ => by
  obtain ⟨a, h1, h2⟩ := h.rd H enc W base spare held n _ _ hx
  rw [hg] at h2
  exact ⟨g a, ⟨a, h1, rfl⟩, relV_of_one (hw _ _ _ hv) h2⟩
theorem Reads.int {t : TypeId} {k : IntKind} (ht : P.underlying t = some (.int k)) (h1 : P.cellsOf t = 1) : Reads P t (fun x => ∃ z : Int, (Lit.int k z).wf = true ∧ x = .val (.int k z)) := (RdC.int ht h1).reads (fun z => .val (.int k z)) (fun _ => rfl) (fun _ _ _ h => okw_int ht h)
theorem Reads.bool {t : TypeId} (ht : P.underlying t = some .bool) (h1 : P.cellsOf t = 1) : Reads P t (fun x => ∃ z : Bool, True ∧ x = .val (.bool z)) := (RdC.bool ht h1).reads (fun z => .val (.bool z)) (fun _ => rfl) (fun _ _ _ h => okw_bool ht h)
theorem Reads.bytes {t e : TypeId} (ht : P.underlying t = some (.slice e)) (he : P.underlying e = some (.int .u8)) (h1 : P.cellsOf t = 1) (h2 : P.cellsOf e = 1) : Reads P t (fun x => ∃ l : List UInt8, l.length ≤ maxLen ∧ x = roB l) := (RdC.bytes ht he h1 h2).reads roB (fun _ => rfl) (fun _ _ _ h => okw_slice ht h)
theorem Reads.ints {t e : TypeId} {k : IntKind} (ht : P.underlying t = some (.slice e)) (he : P.underlying e = some (.int k)) (h1 : P.cellsOf t = 1) (h2 : P.cellsOf e = 1) :
  Reads P t (fun x => ∃ l : List Int, ((∀ z ∈ l, (Lit.int k z).wf = true) ∧ l.length ≤ maxLen) ∧ x = .ro false l.length (intsA k l)) := (RdC.ints ht he h1 h2).reads (fun l => .ro false l.length (intsA k l)) (fun _ => rfl) (fun _ _ _ h => okw_slice ht h)
theorem Reads.slice {t e : TypeId} {α : Type} {f : α → List AV} {good : α → Prop} (ht : P.underlying t = some (.slice e)) (h1 : P.cellsOf t = 1) (hpos : 0 < P.cellsOf e) (h : RdC P e f good) :
  Reads P t (fun x => ∃ l : List α, ((∀ a ∈ l, good a) ∧ l.length ≤ maxLen) ∧ x = .ro false l.length (l.flatMap f)) := (RdC.slice ht h1 hpos h).reads (fun l => .ro false l.length (l.flatMap f)) (fun _ => rfl) (fun _ _ _ h => okw_slice ht h)

/-- All arguments. -/
def ReadsL (P : Program) : List TypeId → List (AV → Prop) → Prop
 | [], [] => True
 | t :: ts, φ :: φs => Reads P t φ ∧ ReadsL P ts φs
 | _, _ => False
theorem ReadsL.nil : ReadsL P [] [] := trivial
theorem ReadsL.cons {t : TypeId} {ts : List TypeId} {φ : AV → Prop} {φs : List (AV → Prop)} (h : Reads P t φ) (hs : ReadsL P ts φs) : ReadsL P (t :: ts) (φ :: φs) := ⟨h, hs⟩
def AllOf : List (AV → Prop) → (List AV → Prop) → Prop
 | [], K => K []
 | φ :: φs, K => ∀ x, φ x → AllOf φs (fun xs => K (x :: xs))

theorem readAll {H : Type} {enc : TypeId × Value → H} {W : World} {base b0 : Nat} {spare : Nat → Bool} {held : Bool} : ∀ {ts : List TypeId} {φs : List (AV → Prop)} {K : List AV → Prop} {vs : List Value} {ds : List (DataW H)} {ps : List MemPlace},
  ReadsL P ts φs → AllOf φs K → (∀ (j : Nat) t v, ts[j]? = some t → vs[j]? = some v → Value.okWide P W .any b0 t v) → DataW.TrodAll enc P W base spare held ts vs ds ps → ∃ xs, K xs ∧ RelL (Old W) W xs vs
 | [], [], K, vs, ds, ps, _, hK, _, hT => by
  obtain ⟨rfl, _, _⟩ := trodAll_nil hT
  exact ⟨[], hK, RelL.nil⟩
 | [], _ :: _, _, _, _, _, h, _, _, _ => h.elim
 | _ :: _, [], _, _, _, _, h, _, _, _ => h.elim
 | t :: ts, φ :: φs, K, vs, ds, ps, h, hK, hv, hT => by
  obtain ⟨v0, vs0, d0, ds0, p0, q0, rfl, rfl, rfl, h0, r0⟩ := trodAll_cons hT
  obtain ⟨x, h1, h2⟩ := h.1 H enc W base b0 spare held v0 d0 p0 (hv 0 t v0 rfl rfl) h0
  obtain ⟨xs, h3, h4⟩ := readAll h.2 (hK x h1) (fun j t v a b => hv (j + 1) t v a b) r0
  exact ⟨x :: xs, h3, RelL.cons h2 h4⟩
end

end Go.Proofs.YtoonnnifelnaiaaGreatDoor.A

namespace Go.Proofs.YtoonnnifelnaiaaGreatDoor.A
open Go.ChangeShapes Go.WideShapes Go.ChangeAt Go.RowKit Go.Deep L
set_option linter.unusedVariables false
set_option maxRecDepth 20000
set_option linter.unusedSimpArgs false
theorem law_contractK {f : FuncId} {fn : Func} {s : ChangeSpec} {H : Type} {K : World → Prop} (enc : TypeId × Value → H) {ts : List TypeId} {φs : List (AV → Prop)} (hp : fn.params.toList = ts) (hr : ReadsL Tryz.prog ts φs)
  (h : AllOf φs fun xs => SpK K Tryz.prog f xs [] (Is (.val (.bool true)))) {W : World} {base : Nat} {args : Array Value} {ds gs : List (DataW H)} {before : List MemPlace} (hK : K W)
  (hval : ∀ (j : Nat) t v, fn.params[j]? = some t → args[j]? = some v → Value.okWide Tryz.prog W .any base t v)
  (hW : DataW.Whole enc Tryz.prog fn.params.toList s.vars false W args.toList ds gs before)
  (post : ∀ W', Ext W W' → s.post enc Tryz.prog fn false true false false W args (.bool true) W') :
  Calls Tryz.prog f args W fun e W' => ∃ v, e = .returned v ∧ s.post enc Tryz.prog fn false true false false W args v W' := by
 obtain ⟨p, q, hA, hV, rfl, hfz, hnd⟩ := hW
 rw [hp] at hA
 obtain ⟨xs, hS, hR⟩ := readAll (b0 := base) hr h (fun j t v h1 h2 => hval j t v (by rw [← Array.getElem?_toList, hp]; exact h1) (by rw [← Array.getElem?_toList]; exact h2)) hA
 have hc := hS W (Old W) args.toList hK (fun b hb => hb) (fun e he => by cases he) .nil hR
 rw [Array.toArray_toList] at hc
 refine hc.mono ?_
 rintro e W' ⟨u, r, H', R', rfl, ⟨rfl, rfl⟩, hs, hv⟩
 obtain rfl := hv.val_inv
 exact ⟨_, rfl, post W' (hs.mods.mono fun b _ ⟨e, he, _⟩ => by cases he)⟩
/-- A listed variable that is an array of strings. -/
theorem reads_strs {P : Program} {w : World} {l : List (String × DataW Unit)} {n : String} {ss : List (List UInt8)} {g k e : Nat} {ty : TypeId} (h : laidMet P l w) (hk0 : 0 < k) (hm : (n, DataW.agg (ss.map fun s => .lit (.string s))) ∈ l)
  (hg : P.globalNamed n = some g) (ht : (P.globals[g]?).map (·.type) = some ty) (hu : P.underlying ty = some (.array k e)) (hk : ss.length = k) (he : P.underlying e = some .string) (hc : P.cellsOf e = 1) (hct : P.cellsOf ty = k) :
  GK g (ss.map fun s => .string ⟨s.toArray⟩) w := by
 obtain ⟨ps, hv, hnd, hp⟩ := h
 have key : ∀ (l : List (String × DataW Unit)) (ps : List MemPlace), DataW.LaidVars P w l ps → ∀ n d, (n, d) ∈ l →
   ∃ g t cs fuel p, P.globalNamed n = some g ∧ (P.globals[g]?).map (·.type) = some t ∧ w.var? P n = some cs ∧ DataW.trod (fun _ => ()) P w 0 (fun _ => true) false fuel t cs.toList = some (d, p) ∧ ∀ x ∈ MemPlace.row ⟨g, 0, none⟩ cs.size, x ∈ ps := by
  intro l
  induction l with
  | nil => intro _ _ _ _ hm; cases hm
  | cons y r ih =>
   obtain ⟨n', d'⟩ := y
   intro ps h n d hm
   obtain ⟨g, t, cs, fuel, p, q, h1, h2, h3, h4, h5, h6⟩ := h
   rcases List.mem_cons.1 hm with e | e
   ·cases e
    exact ⟨g, t, cs, fuel, p, h1, h2, h3, h4, fun x hx => by rw [h6]; simp [hx]⟩
   ·obtain ⟨g', t', cs', fuel', p', a1, a2, a3, a4, a5⟩ := ih q h5 n d e
    exact ⟨g', t', cs', fuel', p', a1, a2, a3, a4, fun x hx => by rw [h6]; simp [a5 x hx]⟩
 obtain ⟨g', t', cs, fuel, p, a1, a2, a3, a4, a5⟩ := key _ _ hv _ _ hm
 obtain rfl : g = g' := Option.some.inj (hg.symm.trans a1)
 obtain rfl : ty = t' := Option.some.inj (ht.symm.trans a2)
 obtain ⟨xs, m, rfl, hx, hl, hxl, hall⟩ := DataW.trod_array hu a4
 have hxs : xs.map (·.1) = ss.map fun s => (DataW.lit (.string s) : DataW Unit) := by
  have := congrArg Prod.fst hx
  simpa using this.symm
 have hcs : cs.toList = ss.map fun s => Value.string ⟨s.toArray⟩ := by
  apply List.ext_getElem?
  intro i
  by_cases hi : i < k
  ·have h1 := hall i hi
   obtain ⟨b, hb⟩ : ∃ b, xs[i]? = some b := ⟨xs[i]'(by omega), List.getElem?_eq_getElem (by omega)⟩
   rw [hb, hc] at h1
   obtain ⟨s, hcs, rfl, _⟩ := DataW.trod_string he h1
   have h2 : cs.toList[i]? = some (.string s) := by
    have := congrArg (·[0]?) hcs
    simpa [List.getElem?_take, List.getElem?_drop] using this
   have h3 : (xs.map (·.1))[i]? = some (DataW.lit (.string s.data.toList) : DataW Unit) := by simp [hb]
   rw [hxs] at h3
   simp only [List.getElem?_map, Option.map_eq_some_iff, DataW.lit.injEq, Lit.string.injEq] at h3
   obtain ⟨z', hz', rfl⟩ := h3
   rw [h2, List.getElem?_map, hz']
   simp
  ·rw [List.getElem?_eq_none (by rw [hl, hct]; omega), List.getElem?_eq_none (by rw [List.length_map]; omega)]
 have hsz : cs.size = k := by rw [← hct, ← hl]; simp
 simp only [World.var?, a1, Option.bind_some] at a3
 have hcell : ∃ c T fr, w.heap[g]? = some (.cells c T fr) ∧ c = cs := by
  split at a3
  ·rename_i c T fr hh
   exact ⟨c, T, fr, hh, by simpa using a3⟩
  ·cases a3
 obtain ⟨c, T, fr, hh, rfl⟩ := hcell
 obtain ⟨⟨c', T', hh'⟩, _⟩ := hp g 0 (a5 _ (by unfold MemPlace.row; rw [List.mem_map]; exact ⟨0, List.mem_range.2 (by omega), rfl⟩))
 rw [hh] at hh'
 cases hh'
 exact ⟨_, _, hh, hcs⟩
end Go.Proofs.YtoonnnifelnaiaaGreatDoor.A
