/-
  Texts laid together (part 2): what the statement's walk and plain law need. No condition.
-/
import Derived.Laws.StructEq
import Derived.Laws.MakeOwn
import Derived.Laws.IdiomStrings
import Derived.Lib.EndianBits
import Derived.Maps.OwnSet
import Derived.DeepKeys4
import Derived.WideKeyPair
import Derived.Test.YtlcoanbdaephiaaZ1
namespace Go.Proofs.Ytlcoanbdaephiaa.Ob
open Go.RowKit L A
set_option linter.unusedVariables false
set_option linter.unusedSimpArgs false
attribute [local irreducible] AW AQ AO

def soundW (w : Watch) : Bool := soundB w.peer w.tok w.key w.seq w.since
def meetsW (v w : Watch) : Bool := meetsB v.peer v.tok v.key w.peer w.tok w.key
def okAt (ws : List Watch) (i : Nat) : Bool := soundW (wat ws i) && (List.range i).all fun j => !meetsW (wat ws j) (wat ws i)
def okTo (ws : List Watch) (k : Nat) : Bool := (List.range k).all (okAt ws)
def validW (ws : List Watch) : Bool := decide (ws.length ≤ 16) && okTo ws ws.length

theorem okTo_succ (ws : List Watch) (k : Nat) : okTo ws (k + 1) = (okTo ws k && okAt ws k) := by simp [okTo, List.range_succ]
theorem valid_no {ws : List Watch} {k : Nat} (hk : k < ws.length) (h : okAt ws k = false) : validW ws = false := by
  have : okTo ws ws.length = false := by
    unfold okTo
    rw [List.all_eq_false]
    exact ⟨k, List.mem_range.2 hk, by simp [h]⟩
  simp [validW, this]
theorem okAt_no1 {ws : List Watch} {k : Nat} (h : soundW (wat ws k) = false) : okAt ws k = false := by simp [okAt, h]
theorem okAt_no2 {ws : List Watch} {k j : Nat} (hj : j < k) (h : meetsW (wat ws j) (wat ws k) = true) : okAt ws k = false := by
  have : ((List.range k).all fun j => !meetsW (wat ws j) (wat ws k)) = false := by
    rw [List.all_eq_false]
    exact ⟨j, List.mem_range.2 hj, by simp [h]⟩
  simp [okAt, this]
theorem okAt_yes {ws : List Watch} {k : Nat} (h : soundW (wat ws k) = true) (h2 : ∀ j, j < k → meetsW (wat ws j) (wat ws k) = false) : okAt ws k = true := by
  simp only [okAt, h, Bool.true_and, List.all_eq_true, List.mem_range]
  intro j hj; simp [h2 j hj]

set_option maxHeartbeats 1000000 in
theorem valid_fn (ws : List Watch) : Sp Try.prog 15 [roW ws] [] (Is (.val (.bool (validW ws)))) := by
  refine Sp.enter Try.func15 rfl _ Try.ntmps15 rfl (fun w0 R0 => ?_)
  refine AW.seq ?_
  refine AW.region ?_
  refine AO.op (O.assign rfl rfl) rfl rfl rfl ?_
  refine AO.nil ?_
  refine AQ.thenN ?_
  refine AW.seq ?_
  refine AW.seq ?_
  refine AW.region ?_
  refine AO.op (O.move rfl rfl) rfl rfl rfl ?_
  refine AO.op (O.lenR rfl rfl) rfl rfl rfl ?_
  refine AO.op (O.gtr rfl rfl rfl (by rfl)) rfl rfl rfl ?_
  refine AO.nil ?_
  refine AQ.thenN ?_
  refine AW.split rfl (fun h => ?_) (fun h => ?_)
  · skip
    refine AW.seq ?_
    refine AW.region ?_
    refine AO.op (O.assign rfl rfl) rfl rfl rfl ?_
    refine AO.nil ?_
    refine AQ.thenN ?_
    refine AW.ret ?_
    refine AQ.thenR ?_
    refine AQ.ret1 rfl rfl ⟨_, List.nil_sublist _, .nil⟩ (⟨by simp at h; simp [ofConst, validW, show ¬ ws.length ≤ 16 by omega], rfl⟩)
  · skip
    have hlen : ws.length ≤ 16 := by simp at h; omega
    refine AW.skip ?_
    refine AQ.thenN ?_
    refine AW.seq ?_
    refine AW.seq ?_
    refine AW.region ?_
    refine AO.op (O.move rfl rfl) rfl rfl rfl ?_
    refine AO.op (O.lenR rfl rfl) rfl rfl rfl ?_
    refine AO.op (O.move rfl rfl) rfl rfl rfl ?_
    refine AO.nil ?_
    refine AQ.thenN ?_
    refine AW.block ?_
    refine AW.loop (fun n E H => ∃ k : Nat, k ≤ ws.length ∧ n = ws.length - k ∧ okTo ws k = true ∧ E = [(0, roW ws), (10, roW ws), (11, .val (.int .i64 (ws.length : Int))), (12, .val (.int .i64 (k : Int)))] ∧ H = []) (ws.length) (⟨0, by omega, rfl, rfl, rfl, rfl⟩) (by repeat (first | exact envNil | refine envCons rfl ?_)) ⟨_, by repeat (exact List.Sublist.slnil), List.Perm.refl _⟩ ?_
    rintro n E H ⟨k, hk, rfl, hok, rfl, rfl⟩
    refine AW.seq ?_
    refine AW.region ?_
    refine AO.op (O.lss rfl rfl rfl (by rfl)) rfl rfl rfl ?_
    refine AO.nil ?_
    refine AQ.thenN ?_
    refine AW.seq ?_
    refine AW.split rfl (fun hlt => ?_) (fun hlt => ?_)
    · skip
      have hlt : k < ws.length := by simpa using hlt
      refine AW.skip ?_
      refine AQ.thenN ?_
      refine AW.seq ?_
      refine AW.block ?_
      refine AW.seq ?_
      refine AW.region ?_
      refine AO.op (O.move rfl rfl) rfl rfl rfl ?_
      refine AO.op (O.idxR rfl rfl rfl ⟨(by omega), (by omega)⟩) rfl rfl rfl ?_
      refine AO.op (O.loadRK rfl rfl (by exact getW (by assumption)) (by rfl)) rfl rfl rfl ?_
      refine AO.opB (O.alloc rfl (by (dsimp only [List.set, List.append, List.cons_append, List.nil_append, splice, ofConst, AV.cells, List.map, List.map_cons, List.map_nil, List.take, List.drop, Nat.zero_add, Nat.add_zero, Nat.reduceAdd, Nat.reduceMul, Nat.zero_mul, Value.cells, List.toList_toArray, zerosA, List.replicate, List.flatten, List.append_nil]; done)) (by rfl)) rfl rfl rfl ?_
      intro B
      refine AO.op (O.assign rfl rfl) rfl rfl rfl ?_
      (refine AO.store (i := 0) rfl rfl rfl rfl rfl rfl (by rfl) (by rfl) (by rfl) (by (dsimp only [List.set, List.append, List.cons_append, List.nil_append, splice, ofConst, AV.cells, List.map, List.map_cons, List.map_nil, List.take, List.drop, Nat.zero_add, Nat.add_zero, Nat.reduceAdd, Nat.reduceMul, Nat.zero_mul, Value.cells, List.toList_toArray, zerosA, List.replicate, List.flatten, List.append_nil]; done)) (by (dsimp only [List.set, List.append, List.cons_append, List.nil_append, splice, ofConst, AV.cells, List.map, List.map_cons, List.map_nil, List.take, List.drop, Nat.zero_add, Nat.add_zero, Nat.reduceAdd, Nat.reduceMul, Nat.zero_mul, Value.cells, List.toList_toArray, zerosA, List.replicate, List.flatten, List.append_nil]; done)) ?_)
      refine AO.nil ?_
      refine AQ.thenN ?_
      refine AW.seq ?_
      refine AW.seq ?_
      refine AW.region ?_
      (refine AO.op (O.loadK rfl rfl (by repeat (exact List.Mem.head _)) (by (dsimp only [List.set, List.append, List.cons_append, List.nil_append, splice, ofConst, AV.cells, List.map, List.map_cons, List.map_nil, List.take, List.drop, Nat.zero_add, Nat.add_zero, Nat.reduceAdd, Nat.reduceMul, Nat.zero_mul, Value.cells, List.toList_toArray, zerosA, List.replicate, List.flatten, List.append_nil]; done)) (by rfl)) rfl rfl rfl ?_)
      refine AO.op (O.call rfl Try.func34 rfl rfl rfl (sound_fn _ _ _ _ _)) rfl rfl rfl ?_
      refine AO.op (O.not rfl rfl (by rfl)) rfl rfl rfl ?_
      refine AO.nil ?_
      refine AQ.thenN ?_
      refine AW.split rfl (fun hs => ?_) (fun hs => ?_)
      · skip
        have hs : soundW (wat ws k) = false := by simpa [soundW] using hs
        refine AW.seq ?_
        refine AW.region ?_
        refine AO.op (O.assign rfl rfl) rfl rfl rfl ?_
        refine AO.nil ?_
        refine AQ.thenN ?_
        refine AW.ret ?_
        refine AQ.thenR ?_
        refine AQ.blockR ?_
        refine AQ.thenR ?_
        refine AQ.loopR ?_
        refine AQ.blockR ?_
        refine AQ.thenR ?_
        refine AQ.ret1 rfl rfl ⟨_, List.nil_sublist _, .nil⟩ (⟨by rw [valid_no hlt (okAt_no1 hs)]; rfl, rfl⟩)
      · skip
        have hs : soundW (wat ws k) = true := by simpa [soundW] using hs
        refine AW.skip ?_
        refine AQ.thenN ?_
        refine AW.seq ?_
        refine AW.region ?_
        refine AO.op (O.move rfl rfl) rfl rfl rfl ?_
        refine AO.op (O.move rfl rfl) rfl rfl rfl ?_
        refine AO.op (O.sliceTo rfl rfl rfl (by rfl) (by omega) (by exact getWK)) rfl rfl rfl ?_
        refine AO.op (O.lenR rfl rfl) rfl rfl rfl ?_
        refine AO.op (O.move rfl rfl) rfl rfl rfl ?_
        refine AO.nil ?_
        refine AQ.thenN ?_
        refine AW.block ?_
        refine AW.loop (fun n E H => ∃ j : Nat, j ≤ k ∧ n = k - j ∧ (∀ i, i < j → meetsW (wat ws i) (wat ws k) = false) ∧ E = [(0, roW ws), (4, .val (.pointer (some ⟨B, 0, none⟩))), (10, roW ws), (11, .val (.int .i64 (ws.length : Int))), (12, .val (.int .i64 (k : Int))), (22, .ro false k (watchesA (ws.take k))), (23, .val (.int .i64 (k : Int))), (24, .val (.int .i64 (j : Int)))] ∧ H = [.blk B 58 5 (wat ws k).cells]) (k) (⟨0, by omega, rfl, fun i hi => by omega, rfl, rfl⟩) (by repeat (first | exact envNil | refine envCons rfl ?_)) ⟨_, by repeat (first | exact List.Sublist.slnil | refine List.Sublist.cons_cons _ ?_), List.Perm.refl _⟩ ?_
        rintro n E H ⟨j, hj, rfl, hno, rfl, rfl⟩
        refine AW.seq ?_
        refine AW.region ?_
        refine AO.op (O.lss rfl rfl rfl (by rfl)) rfl rfl rfl ?_
        refine AO.nil ?_
        refine AQ.thenN ?_
        refine AW.seq ?_
        refine AW.split rfl (fun hjk => ?_) (fun hjk => ?_)
        · skip
          have hjk : j < k := by simpa using hjk
          refine AW.skip ?_
          refine AQ.thenN ?_
          refine AW.seq ?_
          refine AW.block ?_
          refine AW.seq ?_
          refine AW.region ?_
          refine AO.op (O.idxR rfl rfl rfl ⟨(by omega), (by omega)⟩) rfl rfl rfl ?_
          refine AO.op (O.loadRK rfl rfl (by exact getWT (by assumption) (by omega)) (by rfl)) rfl rfl rfl ?_
          refine AO.opB (O.alloc rfl (by (dsimp only [List.set, List.append, List.cons_append, List.nil_append, splice, ofConst, AV.cells, List.map, List.map_cons, List.map_nil, List.take, List.drop, Nat.zero_add, Nat.add_zero, Nat.reduceAdd, Nat.reduceMul, Nat.zero_mul, Value.cells, List.toList_toArray, zerosA, List.replicate, List.flatten, List.append_nil]; done)) (by rfl)) rfl rfl rfl ?_
          intro B
          (refine AO.store (i := 0) rfl rfl rfl rfl rfl rfl (by rfl) (by rfl) (by rfl) (by (dsimp only [List.set, List.append, List.cons_append, List.nil_append, splice, ofConst, AV.cells, List.map, List.map_cons, List.map_nil, List.take, List.drop, Nat.zero_add, Nat.add_zero, Nat.reduceAdd, Nat.reduceMul, Nat.zero_mul, Value.cells, List.toList_toArray, zerosA, List.replicate, List.flatten, List.append_nil]; done)) (by (dsimp only [List.set, List.append, List.cons_append, List.nil_append, splice, ofConst, AV.cells, List.map, List.map_cons, List.map_nil, List.take, List.drop, Nat.zero_add, Nat.add_zero, Nat.reduceAdd, Nat.reduceMul, Nat.zero_mul, Value.cells, List.toList_toArray, zerosA, List.replicate, List.flatten, List.append_nil]; done)) ?_)
          refine AO.nil ?_
          refine AQ.thenN ?_
          refine AW.seq ?_
          refine AW.region ?_
          (refine AO.op (O.loadK rfl rfl (by repeat (exact List.Mem.head _)) (by (dsimp only [List.set, List.append, List.cons_append, List.nil_append, splice, ofConst, AV.cells, List.map, List.map_cons, List.map_nil, List.take, List.drop, Nat.zero_add, Nat.add_zero, Nat.reduceAdd, Nat.reduceMul, Nat.zero_mul, Value.cells, List.toList_toArray, zerosA, List.replicate, List.flatten, List.append_nil]; done)) (by rfl)) rfl rfl rfl ?_)
          (refine AO.op (O.loadK rfl rfl (by repeat (first | exact List.Mem.head _ | refine List.Mem.tail _ ?_)) (by (dsimp only [List.set, List.append, List.cons_append, List.nil_append, splice, ofConst, AV.cells, List.map, List.map_cons, List.map_nil, List.take, List.drop, Nat.zero_add, Nat.add_zero, Nat.reduceAdd, Nat.reduceMul, Nat.zero_mul, Value.cells, List.toList_toArray, zerosA, List.replicate, List.flatten, List.append_nil]; done)) (by rfl)) rfl rfl rfl ?_)
          refine AO.op (O.call rfl Try.func35 rfl rfl rfl (meets_fn _ _ _ _ _ _ _ _ _ _)) rfl rfl rfl ?_
          refine AO.nil ?_
          refine AQ.thenN ?_
          refine AW.split rfl (fun hm => ?_) (fun hm => ?_)
          · skip
            have hm : meetsW (wat ws j) (wat ws k) = true := hm
            refine AW.seq ?_
            refine AW.region ?_
            refine AO.op (O.assign rfl rfl) rfl rfl rfl ?_
            refine AO.nil ?_
            refine AQ.thenN ?_
            refine AW.ret ?_
            refine AQ.blockR ?_
            refine AQ.thenR ?_
            refine AQ.loopR ?_
            refine AQ.blockR ?_
            refine AQ.blockR ?_
            refine AQ.thenR ?_
            refine AQ.loopR ?_
            refine AQ.blockR ?_
            refine AQ.thenR ?_
            refine AQ.ret1 rfl rfl ⟨_, List.nil_sublist _, .nil⟩ (⟨by rw [valid_no hlt (okAt_no2 hjk hm)]; rfl, rfl⟩)
          · skip
            have hm : meetsW (wat ws j) (wat ws k) = false := hm
            refine AW.skip ?_
            refine AQ.blockN ?_
            refine AQ.thenN ?_
            refine AW.region ?_
            refine AO.op (O.add rfl rfl rfl (by exact wI64 (by omega))) rfl rfl rfl ?_
            refine AO.op (O.move rfl rfl) rfl rfl rfl ?_
            refine AO.nil ?_
            refine AQ.loopN _ _ _ (by omega) (⟨j + 1, by omega, rfl, allLt hno hm, rfl, rfl⟩) (by repeat (first | exact envNil | refine envCons rfl ?_)) ⟨_, by repeat (first | exact List.Sublist.slnil | refine List.Sublist.cons_cons _ ?_ | refine List.Sublist.cons _ ?_), List.Perm.refl _⟩
        · skip
          have hjk : j = k := by simp at hjk; omega
          subst hjk
          refine AW.exit ?_
          refine AQ.thenX ?_
          refine AQ.loopX ?_
          refine AQ.blockX rfl ?_
          refine AQ.blockN ?_
          refine AQ.thenN ?_
          refine AW.region ?_
          refine AO.op (O.add rfl rfl rfl (by exact wI64 (by omega))) rfl rfl rfl ?_
          refine AO.op (O.move rfl rfl) rfl rfl rfl ?_
          refine AO.nil ?_
          refine AQ.loopN _ _ _ (by omega) (⟨j + 1, by omega, rfl, by rw [okTo_succ, hok, okAt_yes hs hno]; rfl, rfl, rfl⟩) (by repeat (first | exact envNil | refine envCons rfl ?_)) ⟨_, by repeat (first | exact List.Sublist.slnil | refine List.Sublist.cons _ ?_), List.Perm.refl _⟩
    · skip
      have hlt : k = ws.length := by simp at hlt; omega
      subst hlt
      refine AW.exit ?_
      refine AQ.thenX ?_
      refine AQ.loopX ?_
      refine AQ.blockX rfl ?_
      refine AQ.thenN ?_
      refine AW.seq ?_
      refine AW.region ?_
      refine AO.op (O.assign rfl rfl) rfl rfl rfl ?_
      refine AO.nil ?_
      refine AQ.thenN ?_
      refine AW.ret ?_
      refine AQ.ret1 rfl rfl ⟨_, List.nil_sublist _, .nil⟩ (⟨by simp [ofConst, validW, hlen, hok], rfl⟩)
set_option maxHeartbeats 1000000 in
theorem rvalid_fn (ws : List Watch) : Sp Try.prog 16 [roW ws] [] (Is (.val (.bool (validW ws)))) := by
  refine Sp.enter Try.func16 rfl _ Try.ntmps16 rfl (fun w0 R0 => ?_)
  refine AW.seq ?_
  refine AW.region ?_
  refine AO.op (O.assign rfl rfl) rfl rfl rfl ?_
  refine AO.nil ?_
  refine AQ.thenN ?_
  refine AW.seq ?_
  refine AW.seq ?_
  refine AW.region ?_
  refine AO.op (O.move rfl rfl) rfl rfl rfl ?_
  refine AO.op (O.lenR rfl rfl) rfl rfl rfl ?_
  refine AO.op (O.gtr rfl rfl rfl (by rfl)) rfl rfl rfl ?_
  refine AO.nil ?_
  refine AQ.thenN ?_
  refine AW.split rfl (fun h => ?_) (fun h => ?_)
  · skip
    refine AW.seq ?_
    refine AW.region ?_
    refine AO.op (O.assign rfl rfl) rfl rfl rfl ?_
    refine AO.nil ?_
    refine AQ.thenN ?_
    refine AW.ret ?_
    refine AQ.thenR ?_
    refine AQ.ret1 rfl rfl ⟨_, List.nil_sublist _, .nil⟩ (⟨by simp at h; simp [ofConst, validW, show ¬ ws.length ≤ 16 by omega], rfl⟩)
  · skip
    have hlen : ws.length ≤ 16 := by simp at h; omega
    refine AW.skip ?_
    refine AQ.thenN ?_
    refine AW.seq ?_
    refine AW.seq ?_
    refine AW.region ?_
    refine AO.op (O.move rfl rfl) rfl rfl rfl ?_
    refine AO.op (O.lenR rfl rfl) rfl rfl rfl ?_
    refine AO.op (O.move rfl rfl) rfl rfl rfl ?_
    refine AO.nil ?_
    refine AQ.thenN ?_
    refine AW.block ?_
    refine AW.loop (fun n E H => ∃ k : Nat, k ≤ ws.length ∧ n = ws.length - k ∧ okTo ws k = true ∧ E = [(0, roW ws), (10, roW ws), (11, .val (.int .i64 (ws.length : Int))), (12, .val (.int .i64 (k : Int)))] ∧ H = []) (ws.length) (⟨0, by omega, rfl, rfl, rfl, rfl⟩) (by repeat (first | exact envNil | refine envCons rfl ?_)) ⟨_, by repeat (exact List.Sublist.slnil), List.Perm.refl _⟩ ?_
    rintro n E H ⟨k, hk, rfl, hok, rfl, rfl⟩
    refine AW.seq ?_
    refine AW.region ?_
    refine AO.op (O.lss rfl rfl rfl (by rfl)) rfl rfl rfl ?_
    refine AO.nil ?_
    refine AQ.thenN ?_
    refine AW.seq ?_
    refine AW.split rfl (fun hlt => ?_) (fun hlt => ?_)
    · skip
      have hlt : k < ws.length := by simpa using hlt
      refine AW.skip ?_
      refine AQ.thenN ?_
      refine AW.seq ?_
      refine AW.block ?_
      refine AW.seq ?_
      refine AW.region ?_
      refine AO.op (O.move rfl rfl) rfl rfl rfl ?_
      refine AO.op (O.idxR rfl rfl rfl ⟨(by omega), (by omega)⟩) rfl rfl rfl ?_
      refine AO.op (O.loadRK rfl rfl (by exact getW (by assumption)) (by rfl)) rfl rfl rfl ?_
      refine AO.opB (O.alloc rfl (by (dsimp only [List.set, List.append, List.cons_append, List.nil_append, splice, ofConst, AV.cells, List.map, List.map_cons, List.map_nil, List.take, List.drop, Nat.zero_add, Nat.add_zero, Nat.reduceAdd, Nat.reduceMul, Nat.zero_mul, Value.cells, List.toList_toArray, zerosA, List.replicate, List.flatten, List.append_nil]; done)) (by rfl)) rfl rfl rfl ?_
      intro B
      refine AO.op (O.assign rfl rfl) rfl rfl rfl ?_
      (refine AO.store (i := 0) rfl rfl rfl rfl rfl rfl (by rfl) (by rfl) (by rfl) (by (dsimp only [List.set, List.append, List.cons_append, List.nil_append, splice, ofConst, AV.cells, List.map, List.map_cons, List.map_nil, List.take, List.drop, Nat.zero_add, Nat.add_zero, Nat.reduceAdd, Nat.reduceMul, Nat.zero_mul, Value.cells, List.toList_toArray, zerosA, List.replicate, List.flatten, List.append_nil]; done)) (by (dsimp only [List.set, List.append, List.cons_append, List.nil_append, splice, ofConst, AV.cells, List.map, List.map_cons, List.map_nil, List.take, List.drop, Nat.zero_add, Nat.add_zero, Nat.reduceAdd, Nat.reduceMul, Nat.zero_mul, Value.cells, List.toList_toArray, zerosA, List.replicate, List.flatten, List.append_nil]; done)) ?_)
      refine AO.nil ?_
      refine AQ.thenN ?_
      refine AW.seq ?_
      refine AW.seq ?_
      refine AW.region ?_
      (refine AO.op (O.loadK rfl rfl (by repeat (exact List.Mem.head _)) (by (dsimp only [List.set, List.append, List.cons_append, List.nil_append, splice, ofConst, AV.cells, List.map, List.map_cons, List.map_nil, List.take, List.drop, Nat.zero_add, Nat.add_zero, Nat.reduceAdd, Nat.reduceMul, Nat.zero_mul, Value.cells, List.toList_toArray, zerosA, List.replicate, List.flatten, List.append_nil]; done)) (by rfl)) rfl rfl rfl ?_)
      refine AO.op (O.call rfl Try.func36 rfl rfl rfl (proper_fn _ _ _ _ _)) rfl rfl rfl ?_
      refine AO.op (O.not rfl rfl (by rfl)) rfl rfl rfl ?_
      refine AO.nil ?_
      refine AQ.thenN ?_
      refine AW.split rfl (fun hs => ?_) (fun hs => ?_)
      · skip
        have hs : soundW (wat ws k) = false := by simpa [soundW] using hs
        refine AW.seq ?_
        refine AW.region ?_
        refine AO.op (O.assign rfl rfl) rfl rfl rfl ?_
        refine AO.nil ?_
        refine AQ.thenN ?_
        refine AW.ret ?_
        refine AQ.thenR ?_
        refine AQ.blockR ?_
        refine AQ.thenR ?_
        refine AQ.loopR ?_
        refine AQ.blockR ?_
        refine AQ.thenR ?_
        refine AQ.ret1 rfl rfl ⟨_, List.nil_sublist _, .nil⟩ (⟨by rw [valid_no hlt (okAt_no1 hs)]; rfl, rfl⟩)
      · skip
        have hs : soundW (wat ws k) = true := by simpa [soundW] using hs
        refine AW.skip ?_
        refine AQ.thenN ?_
        refine AW.seq ?_
        refine AW.region ?_
        refine AO.op (O.move rfl rfl) rfl rfl rfl ?_
        refine AO.op (O.move rfl rfl) rfl rfl rfl ?_
        refine AO.op (O.sliceTo rfl rfl rfl (by rfl) (by omega) (by exact getWK)) rfl rfl rfl ?_
        refine AO.op (O.lenR rfl rfl) rfl rfl rfl ?_
        refine AO.op (O.move rfl rfl) rfl rfl rfl ?_
        refine AO.nil ?_
        refine AQ.thenN ?_
        refine AW.block ?_
        refine AW.loop (fun n E H => ∃ j : Nat, j ≤ k ∧ n = k - j ∧ (∀ i, i < j → meetsW (wat ws i) (wat ws k) = false) ∧ E = [(0, roW ws), (4, .val (.pointer (some ⟨B, 0, none⟩))), (10, roW ws), (11, .val (.int .i64 (ws.length : Int))), (12, .val (.int .i64 (k : Int))), (22, .ro false k (watchesA (ws.take k))), (23, .val (.int .i64 (k : Int))), (24, .val (.int .i64 (j : Int)))] ∧ H = [.blk B 58 5 (wat ws k).cells]) (k) (⟨0, by omega, rfl, fun i hi => by omega, rfl, rfl⟩) (by repeat (first | exact envNil | refine envCons rfl ?_)) ⟨_, by repeat (first | exact List.Sublist.slnil | refine List.Sublist.cons_cons _ ?_), List.Perm.refl _⟩ ?_
        rintro n E H ⟨j, hj, rfl, hno, rfl, rfl⟩
        refine AW.seq ?_
        refine AW.region ?_
        refine AO.op (O.lss rfl rfl rfl (by rfl)) rfl rfl rfl ?_
        refine AO.nil ?_
        refine AQ.thenN ?_
        refine AW.seq ?_
        refine AW.split rfl (fun hjk => ?_) (fun hjk => ?_)
        · skip
          have hjk : j < k := by simpa using hjk
          refine AW.skip ?_
          refine AQ.thenN ?_
          refine AW.seq ?_
          refine AW.block ?_
          refine AW.seq ?_
          refine AW.region ?_
          refine AO.op (O.idxR rfl rfl rfl ⟨(by omega), (by omega)⟩) rfl rfl rfl ?_
          refine AO.op (O.loadRK rfl rfl (by exact getWT (by assumption) (by omega)) (by rfl)) rfl rfl rfl ?_
          refine AO.opB (O.alloc rfl (by (dsimp only [List.set, List.append, List.cons_append, List.nil_append, splice, ofConst, AV.cells, List.map, List.map_cons, List.map_nil, List.take, List.drop, Nat.zero_add, Nat.add_zero, Nat.reduceAdd, Nat.reduceMul, Nat.zero_mul, Value.cells, List.toList_toArray, zerosA, List.replicate, List.flatten, List.append_nil]; done)) (by rfl)) rfl rfl rfl ?_
          intro B
          (refine AO.store (i := 0) rfl rfl rfl rfl rfl rfl (by rfl) (by rfl) (by rfl) (by (dsimp only [List.set, List.append, List.cons_append, List.nil_append, splice, ofConst, AV.cells, List.map, List.map_cons, List.map_nil, List.take, List.drop, Nat.zero_add, Nat.add_zero, Nat.reduceAdd, Nat.reduceMul, Nat.zero_mul, Value.cells, List.toList_toArray, zerosA, List.replicate, List.flatten, List.append_nil]; done)) (by (dsimp only [List.set, List.append, List.cons_append, List.nil_append, splice, ofConst, AV.cells, List.map, List.map_cons, List.map_nil, List.take, List.drop, Nat.zero_add, Nat.add_zero, Nat.reduceAdd, Nat.reduceMul, Nat.zero_mul, Value.cells, List.toList_toArray, zerosA, List.replicate, List.flatten, List.append_nil]; done)) ?_)
          refine AO.nil ?_
          refine AQ.thenN ?_
          refine AW.seq ?_
          refine AW.region ?_
          (refine AO.op (O.loadK rfl rfl (by repeat (exact List.Mem.head _)) (by (dsimp only [List.set, List.append, List.cons_append, List.nil_append, splice, ofConst, AV.cells, List.map, List.map_cons, List.map_nil, List.take, List.drop, Nat.zero_add, Nat.add_zero, Nat.reduceAdd, Nat.reduceMul, Nat.zero_mul, Value.cells, List.toList_toArray, zerosA, List.replicate, List.flatten, List.append_nil]; done)) (by rfl)) rfl rfl rfl ?_)
          (refine AO.op (O.loadK rfl rfl (by repeat (first | exact List.Mem.head _ | refine List.Mem.tail _ ?_)) (by (dsimp only [List.set, List.append, List.cons_append, List.nil_append, splice, ofConst, AV.cells, List.map, List.map_cons, List.map_nil, List.take, List.drop, Nat.zero_add, Nat.add_zero, Nat.reduceAdd, Nat.reduceMul, Nat.zero_mul, Value.cells, List.toList_toArray, zerosA, List.replicate, List.flatten, List.append_nil]; done)) (by rfl)) rfl rfl rfl ?_)
          refine AO.op (O.call rfl Try.func37 rfl rfl rfl (clash_fn _ _ _ _ _ _ _ _ _ _)) rfl rfl rfl ?_
          refine AO.nil ?_
          refine AQ.thenN ?_
          refine AW.split rfl (fun hm => ?_) (fun hm => ?_)
          · skip
            have hm : meetsW (wat ws j) (wat ws k) = true := hm
            refine AW.seq ?_
            refine AW.region ?_
            refine AO.op (O.assign rfl rfl) rfl rfl rfl ?_
            refine AO.nil ?_
            refine AQ.thenN ?_
            refine AW.ret ?_
            refine AQ.blockR ?_
            refine AQ.thenR ?_
            refine AQ.loopR ?_
            refine AQ.blockR ?_
            refine AQ.blockR ?_
            refine AQ.thenR ?_
            refine AQ.loopR ?_
            refine AQ.blockR ?_
            refine AQ.thenR ?_
            refine AQ.ret1 rfl rfl ⟨_, List.nil_sublist _, .nil⟩ (⟨by rw [valid_no hlt (okAt_no2 hjk hm)]; rfl, rfl⟩)
          · skip
            have hm : meetsW (wat ws j) (wat ws k) = false := hm
            refine AW.skip ?_
            refine AQ.blockN ?_
            refine AQ.thenN ?_
            refine AW.region ?_
            refine AO.op (O.add rfl rfl rfl (by exact wI64 (by omega))) rfl rfl rfl ?_
            refine AO.op (O.move rfl rfl) rfl rfl rfl ?_
            refine AO.nil ?_
            refine AQ.loopN _ _ _ (by omega) (⟨j + 1, by omega, rfl, allLt hno hm, rfl, rfl⟩) (by repeat (first | exact envNil | refine envCons rfl ?_)) ⟨_, by repeat (first | exact List.Sublist.slnil | refine List.Sublist.cons_cons _ ?_ | refine List.Sublist.cons _ ?_), List.Perm.refl _⟩
        · skip
          have hjk : j = k := by simp at hjk; omega
          subst hjk
          refine AW.exit ?_
          refine AQ.thenX ?_
          refine AQ.loopX ?_
          refine AQ.blockX rfl ?_
          refine AQ.blockN ?_
          refine AQ.thenN ?_
          refine AW.region ?_
          refine AO.op (O.add rfl rfl rfl (by exact wI64 (by omega))) rfl rfl rfl ?_
          refine AO.op (O.move rfl rfl) rfl rfl rfl ?_
          refine AO.nil ?_
          refine AQ.loopN _ _ _ (by omega) (⟨j + 1, by omega, rfl, by rw [okTo_succ, hok, okAt_yes hs hno]; rfl, rfl, rfl⟩) (by repeat (first | exact envNil | refine envCons rfl ?_)) ⟨_, by repeat (first | exact List.Sublist.slnil | refine List.Sublist.cons _ ?_), List.Perm.refl _⟩
    · skip
      have hlt : k = ws.length := by simp at hlt; omega
      subst hlt
      refine AW.exit ?_
      refine AQ.thenX ?_
      refine AQ.loopX ?_
      refine AQ.blockX rfl ?_
      refine AQ.thenN ?_
      refine AW.seq ?_
      refine AW.region ?_
      refine AO.op (O.assign rfl rfl) rfl rfl rfl ?_
      refine AO.nil ?_
      refine AQ.thenN ?_
      refine AW.ret ?_
      refine AQ.ret1 rfl rfl ⟨_, List.nil_sublist _, .nil⟩ (⟨by simp [ofConst, validW, hlen, hok], rfl⟩)
end Go.Proofs.Ytlcoanbdaephiaa.Ob

namespace Go.Proofs.Ytlcoanbdaephiaa.Ob
open Go.RowKit L A
set_option linter.unusedVariables false
set_option linter.unusedSimpArgs false
attribute [local irreducible] AW AQ AO

def newerB (a b c d : Int) : Bool := (decide (a < c) && decide (c - a < 8388608) || decide (c < a) && decide (8388608 < a - c)) || decide (128 < d - b)
set_option maxHeartbeats 1000000 in
theorem newer_fn (a b c d : Int) (h : 0 ≤ a ∧ a < 16777216 ∧ 0 ≤ c ∧ c < 16777216 ∧ -4611686018427387904 ≤ b ∧ b ≤ 4611686018427387903 ∧ -4611686018427387904 ≤ d ∧ d ≤ 4611686018427387903) : Sp Try.prog 21 [.val (.int .i64 a), .val (.int .i64 b), .val (.int .i64 c), .val (.int .i64 d)] [] (Is (.val (.bool (newerB a b c d)))) := by
  obtain ⟨g1, g2, g3, g4, g5, g6, g7, g8⟩ := h
  refine Sp.enter Try.func21 rfl _ Try.ntmps21 rfl (fun w0 R0 => ?_)
  refine AW.seq ?_
  refine AW.region ?_
  refine AO.op (O.assign rfl rfl) rfl rfl rfl ?_
  refine AO.nil ?_
  refine AQ.thenN ?_
  refine AW.seq ?_
  refine AW.region ?_
  refine AO.op (O.move rfl rfl) rfl rfl rfl ?_
  refine AO.op (O.move rfl rfl) rfl rfl rfl ?_
  refine AO.op (O.lss rfl rfl rfl (by rfl)) rfl rfl rfl ?_
  refine AO.op (O.move rfl rfl) rfl rfl rfl ?_
  refine AO.opG rfl rfl rfl (fun hp => O.move rfl rfl) ?_
  refine AO.opG rfl rfl rfl (fun hp => O.move rfl rfl) ?_
  refine AO.opG rfl rfl rfl (fun hp => OpW.force 13 rfl (by exact hp) (OpW.force 14 rfl (by exact hp) (O.sub rfl rfl rfl (by exact wI64 (by omega))))) ?_
  refine AO.opG rfl rfl rfl (fun hp => OpW.force 15 rfl (by exact hp) (O.lss rfl rfl rfl (by rfl))) ?_
  refine AO.op (O.pickAnd rfl rfl rfl rfl (fun h => by exact h)) rfl rfl rfl ?_
  refine AO.op (O.move rfl rfl) rfl rfl rfl ?_
  refine AO.opG rfl rfl rfl (fun hp => O.move rfl rfl) ?_
  refine AO.opG rfl rfl rfl (fun hp => O.move rfl rfl) ?_
  refine AO.opG rfl rfl rfl (fun hp => OpW.force 19 rfl (by exact hp) (OpW.force 20 rfl (by exact hp) (O.gtr rfl rfl rfl (by rfl)))) ?_
  refine AO.opG rfl rfl rfl (fun hp => OpW.force 21 rfl (by exact hp) (O.move rfl rfl)) ?_
  refine AO.opG rfl rfl rfl (fun hp => O.move rfl rfl) ?_
  refine AO.opG rfl rfl rfl (fun hp => O.move rfl rfl) ?_
  refine AO.opG rfl rfl rfl (fun hp => OpW.force 23 rfl (by exact hp) (OpW.force 24 rfl (by exact hp) (O.sub rfl rfl rfl (by exact wI64 (by omega))))) ?_
  refine AO.opG rfl rfl rfl (fun hp => OpW.force 25 rfl (by exact hp) (O.gtr rfl rfl rfl (by rfl))) ?_
  refine AO.opG rfl rfl rfl (fun hp => OpW.force 22 rfl (by exact hp) (O.pickAnd rfl rfl rfl rfl (fun h => by simp_all))) ?_
  refine AO.op (O.pickOr rfl rfl rfl rfl (fun h => by exact congrArg (fun b => !b) h)) rfl rfl rfl ?_
  refine AO.op (O.move rfl rfl) rfl rfl rfl ?_
  refine AO.opG rfl rfl rfl (fun hp => O.move rfl rfl) ?_
  refine AO.opG rfl rfl rfl (fun hp => O.move rfl rfl) ?_
  refine AO.opG rfl rfl rfl (fun hp => OpW.force 30 rfl (by exact hp) (OpW.force 31 rfl (by exact hp) (O.sub rfl rfl rfl (by exact wI64 (by omega))))) ?_
  refine AO.opG rfl rfl rfl (fun hp => OpW.force 32 rfl (by exact hp) (O.gtr rfl rfl rfl (by rfl))) ?_
  refine AO.op (O.pickOr rfl rfl rfl rfl (fun h => by exact congrArg (fun b => !b) h)) rfl rfl rfl ?_
  refine AO.op (O.assign rfl rfl) rfl rfl rfl ?_
  refine AO.nil ?_
  refine AQ.thenN ?_
  refine AW.ret ?_
  refine AQ.ret1 rfl rfl ⟨_, List.nil_sublist _, .nil⟩ (⟨by simp [newerB], rfl⟩)
theorem c1_fn (p : Int) (tk ky : List UInt8) (s t : Int) (p' : Int) (tk' ky' : List UInt8) (s' t' : Int) : Sp Try.prog 39 [.agg (cellsW p tk ky s t), .rp (cellsW p' tk' ky' s' t') 0] [] (Is (.val (.bool (!meetsB p tk ky p' tk' ky')))) := by
  refine Sp.enter Try.func39 rfl _ Try.ntmps39 rfl (fun w0 R0 => ?_)
  refine AW.seq ?_
  refine AW.region ?_
  refine AO.opB (O.box rfl rfl rfl rfl rfl) rfl rfl rfl ?_
  intro B
  refine AO.op (O.assign rfl rfl) rfl rfl rfl ?_
  refine AO.nil ?_
  refine AQ.thenN ?_
  refine AW.seq ?_
  refine AW.region ?_
  refine AO.op (O.loadK rfl rfl (by repeat (exact List.Mem.head _)) (by rfl) (by rfl)) rfl rfl rfl ?_
  refine AO.op (O.loadRK rfl rfl (by rfl) (by rfl)) rfl rfl rfl ?_
  refine AO.op (O.call rfl Try.func35 rfl rfl rfl (meets_fn _ _ _ _ _ _ _ _ _ _)) rfl rfl rfl ?_
  refine AO.op (O.not rfl rfl (by rfl)) rfl rfl rfl ?_
  refine AO.op (O.assign rfl rfl) rfl rfl rfl ?_
  refine AO.nil ?_
  refine AQ.thenN ?_
  refine AW.ret ?_
  refine AQ.ret1 rfl rfl ⟨_, List.nil_sublist _, .nil⟩ (⟨rfl, rfl⟩)
theorem c2_fn (p : Int) (tk ky : List UInt8) (s t : Int) (q : Int) (tk' : List UInt8) : Sp Try.prog 42 [.agg (cellsW p tk ky s t), .rp [.val (.int .i64 q)] 0, .rp [roB tk'] 0] [] (Is (.val (.bool (p != q || !(tk == tk'))))) := by
  refine Sp.enter Try.func42 rfl _ Try.ntmps42 rfl (fun w0 R0 => ?_)
  refine AW.seq ?_
  refine AW.region ?_
  refine AO.opB (O.box rfl rfl rfl rfl rfl) rfl rfl rfl ?_
  intro B
  refine AO.op (O.assign rfl rfl) rfl rfl rfl ?_
  refine AO.nil ?_
  refine AQ.thenN ?_
  refine AW.seq ?_
  refine AW.region ?_
  refine AO.op (O.fieldAddr rfl rfl) rfl rfl rfl ?_
  refine AO.op (O.load rfl rfl (by repeat (exact List.Mem.head _)) (by rfl)) rfl rfl rfl ?_
  refine AO.op (O.loadR rfl rfl (by rfl)) rfl rfl rfl ?_
  refine AO.op (O.neq rfl rfl rfl (by rfl)) rfl rfl rfl ?_
  refine AO.op (O.move rfl rfl) rfl rfl rfl ?_
  refine AO.opG rfl rfl rfl (fun hp => O.fieldAddr rfl rfl) ?_
  refine AO.opG rfl rfl rfl (fun hp => OpW.force 10 rfl (by exact hp) (O.load rfl rfl (by repeat (exact List.Mem.head _)) (by rfl))) ?_
  refine AO.opG rfl rfl rfl (fun hp => O.loadR rfl rfl (by rfl)) ?_
  refine AO.opG rfl rfl rfl (fun hp => OpW.force 11 rfl (by exact hp) (OpW.force 12 rfl (by exact hp) (O.call rfl Try.func43 rfl rfl rfl (equal_fn _ _)))) ?_
  refine AO.opG rfl rfl rfl (fun hp => OpW.force 13 rfl (by exact hp) (O.not rfl rfl (by rfl))) ?_
  refine AO.op (O.pickOr rfl rfl rfl rfl (fun h => by exact congrArg (fun b => !b) h)) rfl rfl rfl ?_
  refine AO.op (O.assign rfl rfl) rfl rfl rfl ?_
  refine AO.nil ?_
  refine AQ.thenN ?_
  refine AW.ret ?_
  refine AQ.ret1 rfl rfl ⟨_, List.nil_sublist _, .nil⟩ (⟨rfl, rfl⟩)
theorem c3_fn (p : Int) (tk ky : List UInt8) (s t : Int) (q : Int) : Sp Try.prog 44 [.agg (cellsW p tk ky s t), .rp [.val (.int .i64 q)] 0] [] (Is (.val (.bool (p != q)))) := by
  refine Sp.enter Try.func44 rfl _ Try.ntmps44 rfl (fun w0 R0 => ?_)
  refine AW.seq ?_
  refine AW.region ?_
  refine AO.opB (O.box rfl rfl rfl rfl rfl) rfl rfl rfl ?_
  intro B
  refine AO.op (O.assign rfl rfl) rfl rfl rfl ?_
  refine AO.nil ?_
  refine AQ.thenN ?_
  refine AW.seq ?_
  refine AW.region ?_
  refine AO.op (O.fieldAddr rfl rfl) rfl rfl rfl ?_
  refine AO.op (O.load rfl rfl (by repeat (exact List.Mem.head _)) (by rfl)) rfl rfl rfl ?_
  refine AO.op (O.loadR rfl rfl (by rfl)) rfl rfl rfl ?_
  refine AO.op (O.neq rfl rfl rfl (by rfl)) rfl rfl rfl ?_
  refine AO.op (O.assign rfl rfl) rfl rfl rfl ?_
  refine AO.nil ?_
  refine AQ.thenN ?_
  refine AW.ret ?_
  refine AQ.ret1 rfl rfl ⟨_, List.nil_sublist _, .nil⟩ (⟨rfl, rfl⟩)
theorem c4_fn (p : Int) (tk ky : List UInt8) (s t : Int) : Sp Try.prog 45 [.agg (cellsW p tk ky s t)] [] (Is (.val (.bool true))) := by
  refine Sp.enter Try.func45 rfl _ Try.ntmps45 rfl (fun w0 R0 => ?_)
  refine AW.seq ?_
  refine AW.region ?_
  refine AO.opB (O.box rfl rfl rfl rfl rfl) rfl rfl rfl ?_
  intro B
  refine AO.op (O.assign rfl rfl) rfl rfl rfl ?_
  refine AO.nil ?_
  refine AQ.thenN ?_
  refine AW.seq ?_
  refine AW.region ?_
  refine AO.op (O.assign rfl rfl) rfl rfl rfl ?_
  refine AO.nil ?_
  refine AQ.thenN ?_
  refine AW.ret ?_
  refine AQ.ret1 rfl rfl ⟨_, List.nil_sublist _, .nil⟩ (⟨rfl, rfl⟩)
theorem c5_fn (p : Int) (tk ky : List UInt8) (s t : Int) (ky' : List UInt8) : Sp Try.prog 46 [.agg (cellsW p tk ky s t), .rp [roB ky'] 0] [] (Is (.val (.bool (ky == ky')))) := by
  refine Sp.enter Try.func46 rfl _ Try.ntmps46 rfl (fun w0 R0 => ?_)
  refine AW.seq ?_
  refine AW.region ?_
  refine AO.opB (O.box rfl rfl rfl rfl rfl) rfl rfl rfl ?_
  intro B
  refine AO.op (O.assign rfl rfl) rfl rfl rfl ?_
  refine AO.nil ?_
  refine AQ.thenN ?_
  refine AW.seq ?_
  refine AW.region ?_
  refine AO.op (O.fieldAddr rfl rfl) rfl rfl rfl ?_
  refine AO.op (O.load rfl rfl (by repeat (exact List.Mem.head _)) (by rfl)) rfl rfl rfl ?_
  refine AO.op (O.loadR rfl rfl (by rfl)) rfl rfl rfl ?_
  refine AO.op (O.call rfl Try.func43 rfl rfl rfl (equal_fn _ _)) rfl rfl rfl ?_
  refine AO.op (O.assign rfl rfl) rfl rfl rfl ?_
  refine AO.nil ?_
  refine AQ.thenN ?_
  refine AW.ret ?_
  refine AQ.ret1 rfl rfl ⟨_, List.nil_sublist _, .nil⟩ (⟨rfl, rfl⟩)

/-- Lists that are not long. -/
def Short (ws : List Watch) : Prop := ws.length ≤ 1000000 ∧ ∀ w ∈ ws, w.tok.length ≤ 4294967296 ∧ w.key.length ≤ 4294967296
theorem Short.at {ws : List Watch} (h : Short ws) {k : Nat} (hk : k < ws.length) : (wat ws k).tok.length ≤ 4294967296 ∧ (wat ws k).key.length ≤ 4294967296 := by
  have : wat ws k = ws[k] := by simp [wat, hk]
  rw [this]; exact h.2 _ (List.getElem_mem hk)

def keptTo (K : Watch → Bool) (ws : List Watch) (k : Nat) : List Watch := (ws.take k).filter K
theorem keptTo_succ {K : Watch → Bool} {ws : List Watch} {k : Nat} (h : k < ws.length) : keptTo K ws (k + 1) = keptTo K ws k ++ if K (wat ws k) = true then [wat ws k] else [] := by
  have : wat ws k = ws[k] := by simp [wat, h]
  rw [this, keptTo, List.take_succ_eq_append_getElem h, List.filter_append]
  by_cases hk : K ws[k] = true <;> simp [keptTo, hk]
theorem keptTo_le (K : Watch → Bool) (ws : List Watch) (k : Nat) : (keptTo K ws k).length ≤ k := by
  have h1 := List.length_filter_le K (ws.take k)
  have h2 := List.length_take_le k ws
  unfold keptTo; omega
theorem keptTo_all (K : Watch → Bool) (ws : List Watch) : keptTo K ws ws.length = ws.filter K := by simp [keptTo]
set_option maxHeartbeats 1000000 in
theorem filter_fn (ws : List Watch) (hsh : Short ws) (K : Watch → Bool) (f : FuncId) (caps : List AV) (g : Func) (hf : Try.prog.funcs[f]? = some g) (hn : (g.name == "runtime.NumGoroutine") = false) (hb : g.body.isNone = false)
    (hk : ∀ p tk ky s t, Sp Try.prog f ([.agg (cellsW p tk ky s t)] ++ caps) [] (Is (.val (.bool (K ⟨p, tk, ky, s, t⟩))))) :
    Sp Try.prog 38 [roW ws, .fn (.func f) caps] [] (NewRow 58 5 (ws.filter K).length (watchesA (ws.filter K))) := by
  have hlen := hsh.1
  refine Sp.enter Try.func38 rfl _ Try.ntmps38 rfl (fun w0 R0 => ?_)
  refine AW.seq ?_
  refine AW.region ?_
  refine AO.op (O.assign rfl rfl) rfl rfl rfl ?_
  refine AO.nil ?_
  refine AQ.thenN ?_
  refine AW.seq ?_
  refine AW.region ?_
  refine AO.op (O.assign rfl rfl) rfl rfl rfl ?_
  refine AO.nil ?_
  refine AQ.thenN ?_
  refine AW.seq ?_
  refine AW.seq ?_
  refine AW.region ?_
  refine AO.op (O.move rfl rfl) rfl rfl rfl ?_
  refine AO.op (O.lenR rfl rfl) rfl rfl rfl ?_
  refine AO.op (O.move rfl rfl) rfl rfl rfl ?_
  refine AO.nil ?_
  refine AQ.thenN ?_
  refine AW.block ?_
  refine AW.g ?_
  refine G.nilRow 58 5 ?_
  refine AW.u ?_
  refine AW.loop (fun n E H => ∃ (k : Nat) (V : Value), k ≤ ws.length ∧ V.oneCell' = true ∧ n = ws.length - k ∧ E = [(1, .fn (.func f) caps), (5, .val V), (8, roW ws), (9, .val (.int .i64 (ws.length : Int))), (10, .val (.int .i64 (k : Int)))] ∧ H = [.row V 58 5 (keptTo K ws k).length (watchesA (keptTo K ws k))]) (ws.length) (⟨0, .slice none 0 0, by omega, rfl, rfl, rfl, rfl⟩) (by repeat (first | exact envNil | refine envCons rfl ?_)) ⟨_, by repeat (first | exact List.Sublist.slnil | refine List.Sublist.cons_cons _ ?_), List.Perm.refl _⟩ ?_
  rintro n E H ⟨k, V0, hk1, hV0, rfl, rfl, rfl⟩
  refine AW.seq ?_
  refine AW.region ?_
  refine AO.op (O.lss rfl rfl rfl (by rfl)) rfl rfl rfl ?_
  refine AO.nil ?_
  refine AQ.thenN ?_
  refine AW.seq ?_
  refine AW.split rfl (fun hlt => ?_) (fun hlt => ?_)
  · skip
    have hlt : k < ws.length := by simpa using hlt
    have hle := keptTo_le K ws k
    refine AW.skip ?_
    refine AQ.thenN ?_
    refine AW.seq ?_
    refine AW.block ?_
    refine AW.seq ?_
    refine AW.region ?_
    refine AO.op (O.idxR rfl rfl rfl ⟨(by omega), (by omega)⟩) rfl rfl rfl ?_
    refine AO.op (O.loadRK rfl rfl (by exact getW (by assumption)) (by rfl)) rfl rfl rfl ?_
    refine AO.opB (O.alloc rfl (by (dsimp only [List.set, List.append, List.cons_append, List.nil_append, splice, ofConst, AV.cells, List.map, List.map_cons, List.map_nil, List.take, List.drop, Nat.zero_add, Nat.add_zero, Nat.reduceAdd, Nat.reduceMul, Nat.zero_mul, Value.cells, List.toList_toArray, zerosA, List.replicate, List.flatten, List.append_nil]; done)) (by rfl)) rfl rfl rfl ?_
    intro B
    (refine AO.store (i := 0) rfl rfl rfl rfl rfl rfl (by rfl) (by rfl) (by rfl) (by (dsimp only [List.set, List.append, List.cons_append, List.nil_append, splice, ofConst, AV.cells, List.map, List.map_cons, List.map_nil, List.take, List.drop, Nat.zero_add, Nat.add_zero, Nat.reduceAdd, Nat.reduceMul, Nat.zero_mul, Value.cells, List.toList_toArray, zerosA, List.replicate, List.flatten, List.append_nil]; done)) (by (dsimp only [List.set, List.append, List.cons_append, List.nil_append, splice, ofConst, AV.cells, List.map, List.map_cons, List.map_nil, List.take, List.drop, Nat.zero_add, Nat.add_zero, Nat.reduceAdd, Nat.reduceMul, Nat.zero_mul, Value.cells, List.toList_toArray, zerosA, List.replicate, List.flatten, List.append_nil]; done)) ?_)
    refine AO.nil ?_
    refine AQ.thenN ?_
    refine AW.seq ?_
    refine AW.region ?_
    refine AO.op (O.move rfl rfl) rfl rfl rfl ?_
    (refine AO.op (O.loadK rfl rfl (by repeat (exact List.Mem.head _)) (by (dsimp only [List.set, List.append, List.cons_append, List.nil_append, splice, ofConst, AV.cells, List.map, List.map_cons, List.map_nil, List.take, List.drop, Nat.zero_add, Nat.add_zero, Nat.reduceAdd, Nat.reduceMul, Nat.zero_mul, Value.cells, List.toList_toArray, zerosA, List.replicate, List.flatten, List.append_nil]; done)) (by rfl)) rfl rfl rfl ?_)
    refine AO.op (O.callV rfl rfl hf hn hb rfl (hk _ _ _ _ _)) rfl rfl rfl ?_
    refine AO.nil ?_
    refine AQ.thenN ?_
    refine AW.split rfl (fun hK => ?_) (fun hK => ?_)
    · skip
      have hK : K (wat ws k) = true := hK
      refine AW.region ?_
      refine AO.op (O.move rfl rfl) rfl rfl rfl ?_
      (refine AO.op (O.loadK rfl rfl (by repeat (exact List.Mem.head _)) (by (dsimp only [List.set, List.append, List.cons_append, List.nil_append, splice, ofConst, AV.cells, List.map, List.map_cons, List.map_nil, List.take, List.drop, Nat.zero_add, Nat.add_zero, Nat.reduceAdd, Nat.reduceMul, Nat.zero_mul, Value.cells, List.toList_toArray, zerosA, List.replicate, List.flatten, List.append_nil]; done)) (by rfl)) rfl rfl rfl ?_)
      refine AO.op (O.call rfl Try.func40 rfl rfl rfl (owned_fn _ _ _ _ _ (hsh.at hlt).1 (hsh.at hlt).2)) rfl rfl rfl ?_
      refine AO.opB (O.buildSlice rfl rfl rfl (by rfl) (by rfl) (by rfl) (by rfl)) rfl rfl rfl ?_
      intro B
      refine AO.g ?_
      (refine G.freezeSl 0 20 rfl rfl ⟨Nat.le_refl _, by unfold maxLen; omega⟩ ?_)
      refine G.unfull 20 rfl ?_
      refine AO.u ?_
      dsimp only [List.eraseIdx]
      (refine AO.append' (i := 1) rfl rfl rfl rfl (by rfl) (by rfl) rfl rfl rfl (by exact SrcA.ro TyD.ax (by rfl) (Nat.le_of_ble_eq_true rfl)) (by rfl) (by (unfold maxLen; omega)) (by omega) (by (dsimp only [List.set, List.append, List.cons_append, List.nil_append, splice, ofConst, AV.cells, List.map, List.map_cons, List.map_nil, List.take, List.drop, Nat.zero_add, Nat.add_zero, Nat.reduceAdd, Nat.reduceMul, Nat.zero_mul, Value.cells, List.toList_toArray, zerosA, List.replicate, List.flatten, List.append_nil]; done)) (fun _ => by (dsimp only [List.set]; done)) ?_)
      intro V hV
      refine AO.op (O.assign rfl rfl) rfl rfl rfl ?_
      refine AO.nil ?_
      refine AQ.blockN ?_
      refine AQ.thenN ?_
      refine AW.region ?_
      refine AO.op (O.add rfl rfl rfl (by exact wI64 (by omega))) rfl rfl rfl ?_
      refine AO.op (O.move rfl rfl) rfl rfl rfl ?_
      refine AO.nil ?_
      refine AQ.loopN _ _ _ (by omega) (⟨k + 1, V, by omega, hV, rfl, rfl, by rw [keptTo_succ hlt, if_pos hK, watchesA_app, List.length_append]⟩) (by repeat (first | exact envNil | refine envCons rfl ?_)) ⟨_, by repeat (first | exact List.Sublist.slnil | refine List.Sublist.cons_cons _ ?_ | refine List.Sublist.cons _ ?_), List.Perm.refl _⟩
    · skip
      have hK : K (wat ws k) = false := hK
      refine AW.skip ?_
      refine AQ.blockN ?_
      refine AQ.thenN ?_
      refine AW.region ?_
      refine AO.op (O.add rfl rfl rfl (by exact wI64 (by omega))) rfl rfl rfl ?_
      refine AO.op (O.move rfl rfl) rfl rfl rfl ?_
      refine AO.nil ?_
      refine AQ.loopN _ _ _ (by omega) (⟨k + 1, V0, by omega, hV0, rfl, rfl, by rw [keptTo_succ hlt, if_neg (by simp [hK]), List.append_nil]⟩) (by repeat (first | exact envNil | refine envCons rfl ?_)) ⟨_, by repeat (first | exact List.Sublist.slnil | refine List.Sublist.cons_cons _ ?_ | refine List.Sublist.cons _ ?_), List.Perm.refl _⟩
  · skip
    have hlt : k = ws.length := by simp at hlt; omega
    subst hlt
    rw [keptTo_all]
    refine AW.exit ?_
    refine AQ.thenX ?_
    refine AQ.loopX ?_
    refine AQ.blockX rfl ?_
    refine AQ.thenN ?_
    refine AW.seq ?_
    refine AW.region ?_
    refine AO.op (O.move rfl rfl) rfl rfl rfl ?_
    refine AO.op (O.assign rfl rfl) rfl rfl rfl ?_
    refine AO.nil ?_
    refine AQ.thenN ?_
    refine AW.ret ?_
    refine AQ.ret1 rfl rfl ⟨_, by repeat (first | exact List.Sublist.slnil | refine List.Sublist.cons_cons _ ?_), List.Perm.refl _⟩ (⟨V0, rfl, hV0, rfl⟩)
end Go.Proofs.Ytlcoanbdaephiaa.Ob

namespace Go.Proofs.Ytlcoanbdaephiaa.Ob
open Go.RowKit L A
set_option linter.unusedVariables false
set_option linter.unusedSimpArgs false
attribute [local irreducible] AW AQ AO

def cancelW (ws : List Watch) (p : Int) (tk : List UInt8) : List Watch := ws.filter fun w => w.peer != p || !(w.tok == tk)
def forgetW (ws : List Watch) (p : Int) : List Watch := ws.filter fun w => w.peer != p
def regW (ws : List Watch) (p : Int) (tk ky : List UInt8) (now : Int) : List Watch × Int :=
  if (!validW ws || !soundB p tk ky 0 now) = true then ([], 1) else
  if 16 ≤ (ws.filter fun w => !meetsB w.peer w.tok w.key p tk ky).length then ([], 16) else ((ws.filter fun w => !meetsB w.peer w.tok w.key p tk ky) ++ [⟨p, tk, ky, 0, now⟩], 0)

theorem filter_le (K : Watch → Bool) {ws : List Watch} (h : Short ws) : (ws.filter K).length ≤ ws.length ∧ ws.length ≤ 1000000 := ⟨List.length_filter_le K ws, h.1⟩

theorem forget_fn (ws : List Watch) (hsh : Short ws) (p : Int) : Sp Try.prog 28 [roW ws, .val (.int .i64 p)] [] (Is (roW (forgetW ws p))) := by
  have HF := filter_fn ws hsh (fun w => w.peer != p) _ [.rp [.val (.int .i64 p)] 0] _ Try.func44 rfl rfl (fun p' tk' ky' s' t' => c3_fn _ _ _ _ _ _)
  refine Sp.enter Try.func28 rfl _ Try.ntmps28 rfl (fun w0 R0 => ?_)
  refine AW.seq ?_
  refine AW.region ?_
  refine AO.opB (O.box rfl rfl rfl rfl rfl) rfl rfl rfl ?_
  intro B
  refine AO.op (O.assign rfl rfl) rfl rfl rfl ?_
  refine AO.nil ?_
  refine AQ.thenN ?_
  refine AW.seq ?_
  refine AW.region ?_
  refine AO.op (O.move rfl rfl) rfl rfl rfl ?_
  refine AO.g ?_
  refine G.freezePtr 0 3 rfl rfl ?_
  refine AO.u ?_
  dsimp only [List.eraseIdx]
  refine AO.op (O.fn rfl rfl) rfl rfl rfl ?_
  refine AO.opRow (O.call rfl Try.func38 rfl rfl rfl (HF)) rfl rfl rfl ?_
  intro V hV
  refine AO.op (O.assign rfl rfl) rfl rfl rfl ?_
  refine AO.nil ?_
  refine AQ.thenN ?_
  refine AW.ret ?_
  refine AQ.g ?_
  refine G.freezeRow 0 rfl [4] (by repeat (first | exact frNil | refine frCons rfl ?_)) ?_
  refine AQ.u ?_
  dsimp only [List.map, List.eraseIdx, List.cons_append, List.nil_append]
  refine AQ.ret1 rfl rfl ⟨_, List.nil_sublist _, .nil⟩ (⟨rfl, rfl⟩)
theorem cancel_fn (ws : List Watch) (hsh : Short ws) (p : Int) (tk : List UInt8) : Sp Try.prog 26 [roW ws, .val (.int .i64 p), roB tk] [] (Is (.tup [roW (cancelW ws p tk), .val (.bool (decide ((cancelW ws p tk).length < ws.length)))])) := by
  have HF := filter_fn ws hsh (fun w => w.peer != p || !(w.tok == tk)) _ [.rp [.val (.int .i64 p)] 0, .rp [roB tk] 0] _ Try.func42 rfl rfl (fun p' tk' ky' s' t' => c2_fn _ _ _ _ _ _ _)
  refine Sp.enter Try.func26 rfl _ Try.ntmps26 rfl (fun w0 R0 => ?_)
  refine AW.seq ?_
  refine AW.region ?_
  refine AO.opB (O.box rfl rfl rfl rfl rfl) rfl rfl rfl ?_
  intro B
  refine AO.opB (O.box rfl rfl rfl rfl rfl) rfl rfl rfl ?_
  intro B
  refine AO.op (O.assign rfl rfl) rfl rfl rfl ?_
  refine AO.op (O.assign rfl rfl) rfl rfl rfl ?_
  refine AO.nil ?_
  refine AQ.thenN ?_
  refine AW.seq ?_
  refine AW.region ?_
  refine AO.op (O.move rfl rfl) rfl rfl rfl ?_
  refine AO.g ?_
  refine G.freezePtr 1 4 rfl rfl ?_
  refine AO.u ?_
  dsimp only [List.eraseIdx]
  refine AO.g ?_
  refine G.freezePtr 0 5 rfl rfl ?_
  refine AO.u ?_
  dsimp only [List.eraseIdx]
  refine AO.op (O.fn rfl rfl) rfl rfl rfl ?_
  refine AO.opRow (O.call rfl Try.func38 rfl rfl rfl (HF)) rfl rfl rfl ?_
  intro V hV
  refine AO.op (O.assign rfl rfl) rfl rfl rfl ?_
  refine AO.nil ?_
  refine AQ.thenN ?_
  refine AW.seq ?_
  refine AW.region ?_
  refine AO.op (O.move rfl rfl) rfl rfl rfl ?_
  refine AO.op (O.move rfl rfl) rfl rfl rfl ?_
  refine AO.op (O.lenRow rfl rfl (by repeat (exact List.Mem.head _))) rfl rfl rfl ?_
  refine AO.op (O.move rfl rfl) rfl rfl rfl ?_
  refine AO.op (O.lenR rfl rfl) rfl rfl rfl ?_
  refine AO.op (O.lss rfl rfl rfl (by rfl)) rfl rfl rfl ?_
  refine AO.op (O.assign rfl rfl) rfl rfl rfl ?_
  refine AO.op (O.assign rfl rfl) rfl rfl rfl ?_
  refine AO.nil ?_
  refine AQ.thenN ?_
  refine AW.ret ?_
  refine AQ.g ?_
  refine G.freezeRow 0 rfl [6] (by repeat (first | exact frNil | refine frCons rfl ?_)) ?_
  refine AQ.u ?_
  dsimp only [List.map, List.eraseIdx, List.cons_append, List.nil_append]
  refine AQ.ret2 rfl rfl rfl ⟨_, List.nil_sublist _, .nil⟩ (⟨by simp [roW, cancelW], rfl⟩)

set_option maxHeartbeats 1000000 in
theorem register_fn (ws : List Watch) (hsh : Short ws) (p : Int) (tk ky : List UInt8) (now : Int) (h1 : tk.length ≤ 4294967296) (h2 : ky.length ≤ 4294967296) :
    Sp Try.prog 18 [roW ws, .val (.int .i64 p), roB tk, roB ky, .val (.int .i64 now)] [] (Is (.tup [roW (regW ws p tk ky now).1, .val (.int .i64 (regW ws p tk ky now).2)])) := by
  have HF := filter_fn ws hsh (fun w => !meetsB w.peer w.tok w.key p tk ky) _ [.rp (cellsW p tk ky 0 now) 0] _ Try.func39 rfl rfl (fun p' tk' ky' s' t' => c1_fn _ _ _ _ _ _ _ _ _ _)
  have hle := filter_le (fun w => !meetsB w.peer w.tok w.key p tk ky) hsh
  refine Sp.enter Try.func18 rfl _ Try.ntmps18 rfl (fun w0 R0 => ?_)
  refine AW.seq ?_
  refine AW.region ?_
  refine AO.op (O.assign rfl rfl) rfl rfl rfl ?_
  refine AO.op (O.assign rfl rfl) rfl rfl rfl ?_
  refine AO.nil ?_
  refine AQ.thenN ?_
  refine AW.seq ?_
  refine AW.region ?_
  refine AO.op (O.move rfl rfl) rfl rfl rfl ?_
  refine AO.op (O.move rfl rfl) rfl rfl rfl ?_
  refine AO.op (O.move rfl rfl) rfl rfl rfl ?_
  refine AO.op (O.move rfl rfl) rfl rfl rfl ?_
  refine AO.op (O.build rfl rfl rfl (by rfl)) rfl rfl rfl ?_
  refine AO.opB (O.alloc rfl (by (dsimp only [List.set, List.append, List.cons_append, List.nil_append, splice, ofConst, AV.cells, List.map, List.map_cons, List.map_nil, List.take, List.drop, Nat.zero_add, Nat.add_zero, Nat.reduceAdd, Nat.reduceMul, Nat.zero_mul, Value.cells, List.toList_toArray, zerosA, List.replicate, List.flatten, List.append_nil]; done)) (by rfl)) rfl rfl rfl ?_
  intro B
  (refine AO.store (i := 0) rfl rfl rfl rfl rfl rfl (by rfl) (by rfl) (by rfl) (by (dsimp only [List.set, List.append, List.cons_append, List.nil_append, splice, ofConst, AV.cells, List.map, List.map_cons, List.map_nil, List.take, List.drop, Nat.zero_add, Nat.add_zero, Nat.reduceAdd, Nat.reduceMul, Nat.zero_mul, Value.cells, List.toList_toArray, zerosA, List.replicate, List.flatten, List.append_nil]; done)) (by (dsimp only [List.set, List.append, List.cons_append, List.nil_append, splice, ofConst, AV.cells, List.map, List.map_cons, List.map_nil, List.take, List.drop, Nat.zero_add, Nat.add_zero, Nat.reduceAdd, Nat.reduceMul, Nat.zero_mul, Value.cells, List.toList_toArray, zerosA, List.replicate, List.flatten, List.append_nil]; done)) ?_)
  refine AO.nil ?_
  refine AQ.thenN ?_
  refine AW.seq ?_
  refine AW.seq ?_
  refine AW.region ?_
  refine AO.op (O.move rfl rfl) rfl rfl rfl ?_
  refine AO.op (O.call rfl Try.func15 rfl rfl rfl (valid_fn _)) rfl rfl rfl ?_
  refine AO.op (O.not rfl rfl (by rfl)) rfl rfl rfl ?_
  refine AO.op (O.move rfl rfl) rfl rfl rfl ?_
  refine AO.opG rfl rfl rfl (fun hp => O.loadK rfl rfl (by repeat (exact List.Mem.head _)) (by rfl) (by rfl)) ?_
  refine AO.opG rfl rfl rfl (fun hp => OpW.force 23 rfl (by exact hp) (O.call rfl Try.func34 rfl rfl rfl (sound_fn _ _ _ _ _))) ?_
  refine AO.opG rfl rfl rfl (fun hp => OpW.force 24 rfl (by exact hp) (O.not rfl rfl (by rfl))) ?_
  refine AO.op (O.pickOr rfl rfl rfl rfl (fun h => by exact congrArg (fun b => !b) h)) rfl rfl rfl ?_
  refine AO.nil ?_
  refine AQ.thenN ?_
  refine AW.split rfl (fun h => ?_) (fun h => ?_)
  · skip
    have h : (!validW ws || !soundB p tk ky 0 now) = true := h
    refine AW.seq ?_
    refine AW.region ?_
    refine AO.op (O.assign rfl rfl) rfl rfl rfl ?_
    refine AO.op (O.assign rfl rfl) rfl rfl rfl ?_
    refine AO.nil ?_
    refine AQ.thenN ?_
    refine AW.ret ?_
    refine AQ.thenR ?_
    refine AQ.g ?_
    refine G.nilRo 10 rfl ?_
    refine AQ.u ?_
    refine AQ.ret2 rfl rfl rfl ⟨_, List.nil_sublist _, .nil⟩ (⟨by simp only [regW, if_pos h]; rfl, rfl⟩)
  · skip
    have h : ¬ (!validW ws || !soundB p tk ky 0 now) = true := by rw [h]; simp
    refine AW.skip ?_
    refine AQ.thenN ?_
    refine AW.seq ?_
    refine AW.region ?_
    refine AO.op (O.move rfl rfl) rfl rfl rfl ?_
    refine AO.g ?_
    refine G.freezePtr 0 12 rfl rfl ?_
    refine AO.u ?_
    dsimp only [List.eraseIdx]
    refine AO.op (O.fn rfl rfl) rfl rfl rfl ?_
    refine AO.opRow (O.call rfl Try.func38 rfl rfl rfl (HF)) rfl rfl rfl ?_
    intro V hV
    refine AO.op (O.assign rfl rfl) rfl rfl rfl ?_
    refine AO.nil ?_
    refine AQ.thenN ?_
    refine AW.seq ?_
    refine AW.seq ?_
    refine AW.region ?_
    refine AO.op (O.move rfl rfl) rfl rfl rfl ?_
    refine AO.op (O.lenRow rfl rfl (by repeat (exact List.Mem.head _))) rfl rfl rfl ?_
    refine AO.op (O.geq rfl rfl rfl (by rfl)) rfl rfl rfl ?_
    refine AO.nil ?_
    refine AQ.thenN ?_
    refine AW.split rfl (fun hf => ?_) (fun hf => ?_)
    · skip
      have hf : 16 ≤ (ws.filter fun w => !meetsB w.peer w.tok w.key p tk ky).length := by have := of_decide_eq_true hf; omega
      refine AW.seq ?_
      refine AW.region ?_
      refine AO.op (O.assign rfl rfl) rfl rfl rfl ?_
      refine AO.op (O.assign rfl rfl) rfl rfl rfl ?_
      refine AO.nil ?_
      refine AQ.thenN ?_
      refine AW.ret ?_
      refine AQ.thenR ?_
      refine AQ.g ?_
      refine G.nilRo 10 rfl ?_
      refine AQ.u ?_
      refine AQ.ret2 rfl rfl rfl ⟨_, List.nil_sublist _, .nil⟩ (⟨by simp only [regW, if_neg h, if_pos hf]; rfl, rfl⟩)
    · skip
      have hf : ¬ 16 ≤ (ws.filter fun w => !meetsB w.peer w.tok w.key p tk ky).length := by have := of_decide_eq_false hf; omega
      refine AW.skip ?_
      refine AQ.thenN ?_
      refine AW.seq ?_
      refine AW.region ?_
      refine AO.op (O.move rfl rfl) rfl rfl rfl ?_
      refine AO.op (O.loadRK rfl rfl (by rfl) (by rfl)) rfl rfl rfl ?_
      refine AO.op (O.call rfl Try.func40 rfl rfl rfl (owned_fn _ _ _ _ _ h1 h2)) rfl rfl rfl ?_
      refine AO.opB (O.buildSlice rfl rfl rfl (by rfl) (by rfl) (by rfl) (by rfl)) rfl rfl rfl ?_
      intro B
      refine AO.g ?_
      (refine G.freezeSl 0 36 rfl rfl ⟨Nat.le_refl _, by unfold maxLen; omega⟩ ?_)
      refine G.unfull 36 rfl ?_
      refine AO.u ?_
      dsimp only [List.eraseIdx]
      (refine AO.append' (i := 0) rfl rfl rfl rfl (by rfl) (by rfl) rfl rfl rfl (by exact SrcA.ro TyD.ax (by rfl) (Nat.le_of_ble_eq_true rfl)) (by rfl) (by (unfold maxLen; omega)) (by omega) (by (dsimp only [List.set, List.append, List.cons_append, List.nil_append, splice, ofConst, AV.cells, List.map, List.map_cons, List.map_nil, List.take, List.drop, Nat.zero_add, Nat.add_zero, Nat.reduceAdd, Nat.reduceMul, Nat.zero_mul, Value.cells, List.toList_toArray, zerosA, List.replicate, List.flatten, List.append_nil]; done)) (fun _ => by (dsimp only [List.set]; done)) ?_)
      intro V hV
      refine AO.op (O.assign rfl rfl) rfl rfl rfl ?_
      refine AO.op (O.assign rfl rfl) rfl rfl rfl ?_
      refine AO.nil ?_
      refine AQ.thenN ?_
      refine AW.ret ?_
      refine AQ.g ?_
      refine G.freezeRow 0 rfl [10] (by repeat (first | exact frNil | refine frCons rfl ?_)) ?_
      refine AQ.u ?_
      dsimp only [List.map, List.eraseIdx, List.cons_append, List.nil_append]
      refine AQ.ret2 rfl rfl rfl ⟨_, List.nil_sublist _, .nil⟩ (⟨by simp only [regW, if_neg h, if_neg hf, roW, watchesA_app, List.length_append]; rfl, rfl⟩)
end Go.Proofs.Ytlcoanbdaephiaa.Ob

namespace Go.Proofs.Ytlcoanbdaephiaa.Ob
open Go.RowKit L A
set_option linter.unusedVariables false
set_option linter.unusedSimpArgs false
attribute [local irreducible] AW AQ AO

def sameW (a b : List Watch) : Bool := decide (a.length = b.length) && (List.range a.length).all fun i => wat a i == wat b i
end Go.Proofs.Ytlcoanbdaephiaa.Ob

namespace Go.Proofs.Ytlcoanbdaephiaa.Ob
open Go.RowKit L A
set_option linter.unusedVariables false
set_option linter.unusedSimpArgs false
attribute [local irreducible] AW AQ AO

theorem mod_fn (v n : Int) (h1 : 0 < n) (h2 : n ≤ 4611686018427387904) : Sp Try.prog 17 [.val (.int .i64 v), .val (.int .i64 n)] [] (Is (.val (.int .i64 (v % n)))) := by
  have hf := tmod_fix2 v n h1
  have hlt : v.tmod n < n := Int.tmod_lt_of_pos v h1
  have hge : -n < v.tmod n := by
    rcases Int.le_total 0 v with hv | hv
    · have := Int.tmod_nonneg n hv; omega
    · have := Int.lt_tmod_of_pos v h1; omega
  refine Sp.enter Try.func17 rfl _ Try.ntmps17 rfl (fun w0 R0 => ?_)
  refine AW.seq ?_
  refine AW.region ?_
  refine AO.op (O.assign rfl rfl) rfl rfl rfl ?_
  refine AO.nil ?_
  refine AQ.thenN ?_
  refine AW.seq ?_
  refine AW.region ?_
  refine AO.op (O.move rfl rfl) rfl rfl rfl ?_
  refine AO.op (O.move rfl rfl) rfl rfl rfl ?_
  refine AO.op (O.rem rfl rfl rfl (by omega) rfl) rfl rfl rfl ?_
  refine AO.op (O.assign rfl rfl) rfl rfl rfl ?_
  refine AO.nil ?_
  refine AQ.thenN ?_
  refine AW.seq ?_
  refine AW.seq ?_
  refine AW.region ?_
  refine AO.op (O.move rfl rfl) rfl rfl rfl ?_
  refine AO.op (O.lss rfl rfl rfl (by first | exact bTrue (by omega) | exact bFalse (by omega) | assumption | rfl)) rfl rfl rfl ?_
  refine AO.nil ?_
  refine AQ.thenN ?_
  refine AW.split rfl (fun h => ?_) (fun h => ?_)
  · skip
    have h : v.tmod n < 0 := of_decide_eq_true h
    rw [if_pos h] at hf
    refine AW.region ?_
    refine AO.op (O.move rfl rfl) rfl rfl rfl ?_
    refine AO.op (O.move rfl rfl) rfl rfl rfl ?_
    refine AO.op (O.add rfl rfl rfl (by first | exact wI64 (by omega) | rfl)) rfl rfl rfl ?_
    refine AO.op (O.assign rfl rfl) rfl rfl rfl ?_
    refine AO.nil ?_
    refine AQ.thenN ?_
    refine AW.seq ?_
    refine AW.region ?_
    refine AO.op (O.move rfl rfl) rfl rfl rfl ?_
    refine AO.op (O.assign rfl rfl) rfl rfl rfl ?_
    refine AO.nil ?_
    refine AQ.thenN ?_
    refine AW.ret ?_
    refine AQ.ret1 rfl rfl ⟨_, List.nil_sublist _, .nil⟩ (⟨by rw [hf], rfl⟩)
  · skip
    have h : ¬ v.tmod n < 0 := of_decide_eq_false h
    rw [if_neg h] at hf
    refine AW.skip ?_
    refine AQ.thenN ?_
    refine AW.seq ?_
    refine AW.region ?_
    refine AO.op (O.move rfl rfl) rfl rfl rfl ?_
    refine AO.op (O.assign rfl rfl) rfl rfl rfl ?_
    refine AO.nil ?_
    refine AQ.thenN ?_
    refine AW.ret ?_
    refine AQ.ret1 rfl rfl ⟨_, List.nil_sublist _, .nil⟩ (⟨by rw [hf], rfl⟩)

theorem aw1 : Sp Try.prog 18 [roW [], .val (.int .i64 1), roB [1], roB [9], .val (.int .i64 0)] [] (Is (.tup [roW [⟨1, [1], [9], 0, 0⟩], .val (.int .i64 0)])) :=
  register_fn [] ⟨by simp, fun w hw => by cases hw⟩ 1 [1] [9] 0 (by simp) (by simp)
theorem aw2 : Sp Try.prog 18 [roW [⟨1, [1], [9], 0, 0⟩], .val (.int .i64 1), roB [2], roB [9], .val (.int .i64 0)] [] (Is (.tup [roW [⟨1, [2], [9], 0, 0⟩], .val (.int .i64 0)])) :=
  register_fn [⟨1, [1], [9], 0, 0⟩] ⟨by simp, fun w hw => by simp at hw; subst hw; simp⟩ 1 [2] [9] 0 (by simp) (by simp)
set_option maxHeartbeats 1000000 in
theorem awake_fn : Sp Try.prog 11 [] [] (Is (.val (.bool true))) := by
  refine Sp.enter Try.func11 rfl _ Try.ntmps11 rfl (fun w0 R0 => ?_)
  refine AW.seq ?_
  refine AW.region ?_
  refine AO.op (O.assign rfl rfl) rfl rfl rfl ?_
  refine AO.nil ?_
  refine AQ.thenN ?_
  refine AW.seq ?_
  refine AW.region ?_
  refine AO.opB (O.buildSlice rfl rfl rfl (by rfl) (by rfl) (by rfl) (by rfl)) rfl rfl rfl ?_
  intro B
  refine AO.g ?_
  first | (refine G.freezeSl 0 5 rfl rfl ⟨Nat.le_refl _, by unfold maxLen; omega⟩ ?_) | (refine G.freezeSl 1 5 rfl rfl ⟨Nat.le_refl _, by unfold maxLen; omega⟩ ?_) | (refine G.freezeSl 2 5 rfl rfl ⟨Nat.le_refl _, by unfold maxLen; omega⟩ ?_) | (refine G.freezeSl 3 5 rfl rfl ⟨Nat.le_refl _, by unfold maxLen; omega⟩ ?_) | (refine G.freezeSl 4 5 rfl rfl ⟨Nat.le_refl _, by unfold maxLen; omega⟩ ?_) | (refine G.freezeSl 5 5 rfl rfl ⟨Nat.le_refl _, by unfold maxLen; omega⟩ ?_) | (refine G.freezeSl 6 5 rfl rfl ⟨Nat.le_refl _, by unfold maxLen; omega⟩ ?_) | (refine G.freezeSl 7 5 rfl rfl ⟨Nat.le_refl _, by unfold maxLen; omega⟩ ?_) | (refine G.freezeSl 8 5 rfl rfl ⟨Nat.le_refl _, by unfold maxLen; omega⟩ ?_) | (refine G.freezeSl 9 5 rfl rfl ⟨Nat.le_refl _, by unfold maxLen; omega⟩ ?_)
  refine G.unfull 5 rfl ?_
  refine AO.u ?_
  dsimp only [List.eraseIdx]
  refine AO.opB (O.buildSlice rfl rfl rfl (by rfl) (by rfl) (by rfl) (by rfl)) rfl rfl rfl ?_
  intro B
  refine AO.g ?_
  first | (refine G.freezeSl 0 6 rfl rfl ⟨Nat.le_refl _, by unfold maxLen; omega⟩ ?_) | (refine G.freezeSl 1 6 rfl rfl ⟨Nat.le_refl _, by unfold maxLen; omega⟩ ?_) | (refine G.freezeSl 2 6 rfl rfl ⟨Nat.le_refl _, by unfold maxLen; omega⟩ ?_) | (refine G.freezeSl 3 6 rfl rfl ⟨Nat.le_refl _, by unfold maxLen; omega⟩ ?_) | (refine G.freezeSl 4 6 rfl rfl ⟨Nat.le_refl _, by unfold maxLen; omega⟩ ?_) | (refine G.freezeSl 5 6 rfl rfl ⟨Nat.le_refl _, by unfold maxLen; omega⟩ ?_) | (refine G.freezeSl 6 6 rfl rfl ⟨Nat.le_refl _, by unfold maxLen; omega⟩ ?_) | (refine G.freezeSl 7 6 rfl rfl ⟨Nat.le_refl _, by unfold maxLen; omega⟩ ?_) | (refine G.freezeSl 8 6 rfl rfl ⟨Nat.le_refl _, by unfold maxLen; omega⟩ ?_) | (refine G.freezeSl 9 6 rfl rfl ⟨Nat.le_refl _, by unfold maxLen; omega⟩ ?_)
  refine G.unfull 6 rfl ?_
  refine AO.u ?_
  dsimp only [List.eraseIdx]
  first | (refine AO.op (O.call rfl Try.func18 rfl rfl rfl (aw1)) rfl rfl rfl ?_) | (refine AO.op (O.call rfl Try.func18 rfl rfl rfl (aw2)) rfl rfl rfl ?_) | (refine AO.op (O.callC rfl Try.func18 rfl rfl rfl (aw1) (by (repeat (first | exact CoeL.nil | refine CoeL.cons Coe.rfl ?_ | refine CoeL.cons Coe.nil ?_ | refine CoeL.cons Coe.unfull ?_ | refine CoeL.cons (Coe.agg ?_) ?_ | refine CoeL.cons (Coe.tup ?_) ?_ | refine CoeL.cons (Coe.ro ?_) ?_)); first | done | fail)) rfl rfl rfl ?_) | (refine AO.op (O.callC rfl Try.func18 rfl rfl rfl (aw2) (by (repeat (first | exact CoeL.nil | refine CoeL.cons Coe.rfl ?_ | refine CoeL.cons Coe.nil ?_ | refine CoeL.cons Coe.unfull ?_ | refine CoeL.cons (Coe.agg ?_) ?_ | refine CoeL.cons (Coe.tup ?_) ?_ | refine CoeL.cons (Coe.ro ?_) ?_)); first | done | fail)) rfl rfl rfl ?_)
  refine AO.op (O.move rfl rfl) rfl rfl rfl ?_
  first | (refine AO.op (O.extract rfl rfl rfl) rfl rfl rfl ?_) | (refine AO.op (O.extractV rfl rfl rfl) rfl rfl rfl ?_)
  first | (refine AO.op (O.extract rfl rfl rfl) rfl rfl rfl ?_) | (refine AO.op (O.extractV rfl rfl rfl) rfl rfl rfl ?_)
  refine AO.op (O.assign rfl rfl) rfl rfl rfl ?_
  refine AO.op (O.assign rfl rfl) rfl rfl rfl ?_
  refine AO.nil ?_
  refine AQ.thenN ?_
  refine AW.seq ?_
  refine AW.region ?_
  refine AO.op (O.move rfl rfl) rfl rfl rfl ?_
  refine AO.opB (O.buildSlice rfl rfl rfl (by rfl) (by rfl) (by rfl) (by rfl)) rfl rfl rfl ?_
  intro B
  refine AO.g ?_
  first | (refine G.freezeSl 0 12 rfl rfl ⟨Nat.le_refl _, by unfold maxLen; omega⟩ ?_) | (refine G.freezeSl 1 12 rfl rfl ⟨Nat.le_refl _, by unfold maxLen; omega⟩ ?_) | (refine G.freezeSl 2 12 rfl rfl ⟨Nat.le_refl _, by unfold maxLen; omega⟩ ?_) | (refine G.freezeSl 3 12 rfl rfl ⟨Nat.le_refl _, by unfold maxLen; omega⟩ ?_) | (refine G.freezeSl 4 12 rfl rfl ⟨Nat.le_refl _, by unfold maxLen; omega⟩ ?_) | (refine G.freezeSl 5 12 rfl rfl ⟨Nat.le_refl _, by unfold maxLen; omega⟩ ?_) | (refine G.freezeSl 6 12 rfl rfl ⟨Nat.le_refl _, by unfold maxLen; omega⟩ ?_) | (refine G.freezeSl 7 12 rfl rfl ⟨Nat.le_refl _, by unfold maxLen; omega⟩ ?_) | (refine G.freezeSl 8 12 rfl rfl ⟨Nat.le_refl _, by unfold maxLen; omega⟩ ?_) | (refine G.freezeSl 9 12 rfl rfl ⟨Nat.le_refl _, by unfold maxLen; omega⟩ ?_)
  refine G.unfull 12 rfl ?_
  refine AO.u ?_
  dsimp only [List.eraseIdx]
  refine AO.opB (O.buildSlice rfl rfl rfl (by rfl) (by rfl) (by rfl) (by rfl)) rfl rfl rfl ?_
  intro B
  refine AO.g ?_
  first | (refine G.freezeSl 0 13 rfl rfl ⟨Nat.le_refl _, by unfold maxLen; omega⟩ ?_) | (refine G.freezeSl 1 13 rfl rfl ⟨Nat.le_refl _, by unfold maxLen; omega⟩ ?_) | (refine G.freezeSl 2 13 rfl rfl ⟨Nat.le_refl _, by unfold maxLen; omega⟩ ?_) | (refine G.freezeSl 3 13 rfl rfl ⟨Nat.le_refl _, by unfold maxLen; omega⟩ ?_) | (refine G.freezeSl 4 13 rfl rfl ⟨Nat.le_refl _, by unfold maxLen; omega⟩ ?_) | (refine G.freezeSl 5 13 rfl rfl ⟨Nat.le_refl _, by unfold maxLen; omega⟩ ?_) | (refine G.freezeSl 6 13 rfl rfl ⟨Nat.le_refl _, by unfold maxLen; omega⟩ ?_) | (refine G.freezeSl 7 13 rfl rfl ⟨Nat.le_refl _, by unfold maxLen; omega⟩ ?_) | (refine G.freezeSl 8 13 rfl rfl ⟨Nat.le_refl _, by unfold maxLen; omega⟩ ?_) | (refine G.freezeSl 9 13 rfl rfl ⟨Nat.le_refl _, by unfold maxLen; omega⟩ ?_)
  refine G.unfull 13 rfl ?_
  refine AO.u ?_
  dsimp only [List.eraseIdx]
  first | (refine AO.op (O.call rfl Try.func18 rfl rfl rfl (aw1)) rfl rfl rfl ?_) | (refine AO.op (O.call rfl Try.func18 rfl rfl rfl (aw2)) rfl rfl rfl ?_) | (refine AO.op (O.callC rfl Try.func18 rfl rfl rfl (aw1) (by (repeat (first | exact CoeL.nil | refine CoeL.cons Coe.rfl ?_ | refine CoeL.cons Coe.nil ?_ | refine CoeL.cons Coe.unfull ?_ | refine CoeL.cons (Coe.agg ?_) ?_ | refine CoeL.cons (Coe.tup ?_) ?_ | refine CoeL.cons (Coe.ro ?_) ?_)); first | done | fail)) rfl rfl rfl ?_) | (refine AO.op (O.callC rfl Try.func18 rfl rfl rfl (aw2) (by (repeat (first | exact CoeL.nil | refine CoeL.cons Coe.rfl ?_ | refine CoeL.cons Coe.nil ?_ | refine CoeL.cons Coe.unfull ?_ | refine CoeL.cons (Coe.agg ?_) ?_ | refine CoeL.cons (Coe.tup ?_) ?_ | refine CoeL.cons (Coe.ro ?_) ?_)); first | done | fail)) rfl rfl rfl ?_)
  refine AO.op (O.move rfl rfl) rfl rfl rfl ?_
  first | (refine AO.op (O.extract rfl rfl rfl) rfl rfl rfl ?_) | (refine AO.op (O.extractV rfl rfl rfl) rfl rfl rfl ?_)
  first | (refine AO.op (O.extract rfl rfl rfl) rfl rfl rfl ?_) | (refine AO.op (O.extractV rfl rfl rfl) rfl rfl rfl ?_)
  refine AO.op (O.assign rfl rfl) rfl rfl rfl ?_
  refine AO.op (O.assign rfl rfl) rfl rfl rfl ?_
  refine AO.nil ?_
  refine AQ.thenN ?_
  refine AW.seq ?_
  refine AW.region ?_
  refine AO.op (O.move rfl rfl) rfl rfl rfl ?_
  refine AO.op (O.eql rfl rfl rfl (by first | exact beq_iff_eq.2 (by omega) | exact beq_eq_false_iff_ne.2 (by omega) | assumption | rfl)) rfl rfl rfl ?_
  refine AO.op (O.move rfl rfl) rfl rfl rfl ?_
  first | (refine AO.opG rfl rfl rfl (fun hp => O.move rfl rfl) ?_) | (refine AO.op (O.move rfl rfl) rfl rfl rfl ?_) | (refine AO.no rfl rfl rfl ?_)
  first | (refine AO.opG rfl rfl rfl (fun hp => OpW.force 20 rfl (by first | exact hp | simp_all) (O.eql rfl rfl rfl (by first | exact beq_iff_eq.2 (by omega) | exact beq_eq_false_iff_ne.2 (by omega) | assumption | rfl))) ?_) | (refine AO.op (O.eql rfl rfl rfl (by first | exact beq_iff_eq.2 (by omega) | exact beq_eq_false_iff_ne.2 (by omega) | assumption | rfl)) rfl rfl rfl ?_) | (refine AO.no rfl rfl rfl ?_)
  first | (refine AO.op (O.pickAnd rfl rfl rfl rfl (fun h => by first | exact h | simp_all)) rfl rfl rfl ?_) | (refine AO.op (O.pickF rfl rfl rfl) rfl rfl rfl ?_) | (refine AO.op (O.pickT rfl rfl rfl) rfl rfl rfl ?_)
  refine AO.op (O.move rfl rfl) rfl rfl rfl ?_
  first | (refine AO.opG rfl rfl rfl (fun hp => O.move rfl rfl) ?_) | (refine AO.op (O.move rfl rfl) rfl rfl rfl ?_) | (refine AO.no rfl rfl rfl ?_)
  first | (refine AO.opG rfl rfl rfl (fun hp => OpW.force 24 rfl (by first | exact hp | simp_all) (O.lenR rfl rfl)) ?_) | (refine AO.opG rfl rfl rfl (fun hp => OpW.force 24 rfl (by first | exact hp | simp_all) (O.lenV rfl rfl)) ?_) | (refine AO.opG rfl rfl rfl (fun hp => OpW.force 24 rfl (by first | exact hp | simp_all) (O.lenRow rfl rfl (by repeat (first | exact List.Mem.head _ | refine List.Mem.tail _ ?_)))) ?_) | (refine AO.opG rfl rfl rfl (fun hp => OpW.force 24 rfl (by first | exact hp | simp_all) (O.lenS rfl rfl)) ?_) | (refine AO.op (O.lenR rfl rfl) rfl rfl rfl ?_) | (refine AO.op (O.lenV rfl rfl) rfl rfl rfl ?_) | (refine AO.op (O.lenRow rfl rfl (by repeat (first | exact List.Mem.head _ | refine List.Mem.tail _ ?_))) rfl rfl rfl ?_) | (refine AO.op (O.lenS rfl rfl) rfl rfl rfl ?_) | (refine AO.no rfl rfl rfl ?_)
  first | (refine AO.opG rfl rfl rfl (fun hp => OpW.force 25 rfl (by first | exact hp | simp_all) (O.eql rfl rfl rfl (by first | exact beq_iff_eq.2 (by omega) | exact beq_eq_false_iff_ne.2 (by omega) | assumption | rfl))) ?_) | (refine AO.op (O.eql rfl rfl rfl (by first | exact beq_iff_eq.2 (by omega) | exact beq_eq_false_iff_ne.2 (by omega) | assumption | rfl)) rfl rfl rfl ?_) | (refine AO.no rfl rfl rfl ?_)
  first | (refine AO.op (O.pickAnd rfl rfl rfl rfl (fun h => by first | exact h | simp_all)) rfl rfl rfl ?_) | (refine AO.op (O.pickF rfl rfl rfl) rfl rfl rfl ?_) | (refine AO.op (O.pickT rfl rfl rfl) rfl rfl rfl ?_)
  refine AO.op (O.move rfl rfl) rfl rfl rfl ?_
  first | (refine AO.opG rfl rfl rfl (fun hp => O.move rfl rfl) ?_) | (refine AO.op (O.move rfl rfl) rfl rfl rfl ?_) | (refine AO.no rfl rfl rfl ?_)
  first | (refine AO.opG rfl rfl rfl (fun hp => OpW.force 29 rfl (by first | exact hp | simp_all) (O.idxR rfl rfl rfl ⟨by decide, by decide⟩)) ?_) | (refine AO.opG rfl rfl rfl (fun hp => OpW.force 29 rfl (by first | exact hp | simp_all) (O.idxV rfl rfl rfl ⟨by decide, by decide⟩)) ?_) | (refine AO.op (O.idxR rfl rfl rfl ⟨by decide, by decide⟩) rfl rfl rfl ?_) | (refine AO.op (O.idxV rfl rfl rfl ⟨by decide, by decide⟩) rfl rfl rfl ?_) | (refine AO.no rfl rfl rfl ?_)
  first | (refine AO.opG rfl rfl rfl (fun hp => OpW.force 30 rfl (by first | exact hp | simp_all) (O.fieldAddrR rfl rfl)) ?_) | (refine AO.opG rfl rfl rfl (fun hp => OpW.force 30 rfl (by first | exact hp | simp_all) (O.fieldAddr rfl rfl)) ?_) | (refine AO.op (O.fieldAddrR rfl rfl) rfl rfl rfl ?_) | (refine AO.op (O.fieldAddr rfl rfl) rfl rfl rfl ?_) | (refine AO.no rfl rfl rfl ?_)
  first | (refine AO.opG rfl rfl rfl (fun hp => OpW.force 31 rfl (by first | exact hp | simp_all) (O.loadR rfl rfl (by first | rfl | assumption))) ?_) | (refine AO.opG rfl rfl rfl (fun hp => OpW.force 31 rfl (by first | exact hp | simp_all) (O.load rfl rfl (by repeat (first | exact List.Mem.head _ | refine List.Mem.tail _ ?_)) (by first | rfl | assumption))) ?_) | (refine AO.op (O.loadR rfl rfl (by first | rfl | assumption)) rfl rfl rfl ?_) | (refine AO.op (O.load rfl rfl (by repeat (first | exact List.Mem.head _ | refine List.Mem.tail _ ?_)) (by first | rfl | assumption)) rfl rfl rfl ?_) | (refine AO.no rfl rfl rfl ?_)
  first | (refine AO.opG rfl rfl rfl (fun hp => OpW.force 32 rfl (by first | exact hp | simp_all) (O.idxR rfl rfl rfl ⟨by decide, by decide⟩)) ?_) | (refine AO.opG rfl rfl rfl (fun hp => OpW.force 32 rfl (by first | exact hp | simp_all) (O.idxV rfl rfl rfl ⟨by decide, by decide⟩)) ?_) | (refine AO.op (O.idxR rfl rfl rfl ⟨by decide, by decide⟩) rfl rfl rfl ?_) | (refine AO.op (O.idxV rfl rfl rfl ⟨by decide, by decide⟩) rfl rfl rfl ?_) | (refine AO.no rfl rfl rfl ?_)
  first | (refine AO.opG rfl rfl rfl (fun hp => OpW.force 33 rfl (by first | exact hp | simp_all) (O.loadR rfl rfl (by first | rfl | assumption))) ?_) | (refine AO.opG rfl rfl rfl (fun hp => OpW.force 33 rfl (by first | exact hp | simp_all) (O.load rfl rfl (by repeat (first | exact List.Mem.head _ | refine List.Mem.tail _ ?_)) (by first | rfl | assumption))) ?_) | (refine AO.op (O.loadR rfl rfl (by first | rfl | assumption)) rfl rfl rfl ?_) | (refine AO.op (O.load rfl rfl (by repeat (first | exact List.Mem.head _ | refine List.Mem.tail _ ?_)) (by first | rfl | assumption)) rfl rfl rfl ?_) | (refine AO.no rfl rfl rfl ?_)
  first | (refine AO.opG rfl rfl rfl (fun hp => OpW.force 34 rfl (by first | exact hp | simp_all) (O.eql rfl rfl rfl (by first | exact beq_iff_eq.2 (by omega) | exact beq_eq_false_iff_ne.2 (by omega) | assumption | rfl))) ?_) | (refine AO.op (O.eql rfl rfl rfl (by first | exact beq_iff_eq.2 (by omega) | exact beq_eq_false_iff_ne.2 (by omega) | assumption | rfl)) rfl rfl rfl ?_) | (refine AO.no rfl rfl rfl ?_)
  first | (refine AO.op (O.pickAnd rfl rfl rfl rfl (fun h => by first | exact h | simp_all)) rfl rfl rfl ?_) | (refine AO.op (O.pickF rfl rfl rfl) rfl rfl rfl ?_) | (refine AO.op (O.pickT rfl rfl rfl) rfl rfl rfl ?_)
  refine AO.op (O.move rfl rfl) rfl rfl rfl ?_
  first | (refine AO.opG rfl rfl rfl (fun hp => O.call rfl Try.func21 rfl rfl rfl (newer_fn _ _ _ _ (by omega))) ?_) | (refine AO.opG rfl rfl rfl (fun hp => O.callC rfl Try.func21 rfl rfl rfl (newer_fn _ _ _ _ (by omega)) (by (repeat (first | exact CoeL.nil | refine CoeL.cons Coe.rfl ?_ | refine CoeL.cons Coe.nil ?_ | refine CoeL.cons Coe.unfull ?_ | refine CoeL.cons (Coe.agg ?_) ?_ | refine CoeL.cons (Coe.tup ?_) ?_ | refine CoeL.cons (Coe.ro ?_) ?_)); first | done | fail)) ?_) | (refine AO.opG rfl rfl rfl (fun hp => O.callL rfl Try.func21 rfl rfl rfl (by repeat (first | exact List.Mem.head _ | refine List.Mem.tail _ ?_)) (newer_fn _ _ _ _ (by omega)) (by (repeat (first | exact LendL.nil | refine LendL.same ?_ | refine LendL.lend ?_)); first | done | fail)) ?_) | (refine AO.op (O.call rfl Try.func21 rfl rfl rfl (newer_fn _ _ _ _ (by omega))) rfl rfl rfl ?_) | (refine AO.op (O.callC rfl Try.func21 rfl rfl rfl (newer_fn _ _ _ _ (by omega)) (by (repeat (first | exact CoeL.nil | refine CoeL.cons Coe.rfl ?_ | refine CoeL.cons Coe.nil ?_ | refine CoeL.cons Coe.unfull ?_ | refine CoeL.cons (Coe.agg ?_) ?_ | refine CoeL.cons (Coe.tup ?_) ?_ | refine CoeL.cons (Coe.ro ?_) ?_)); first | done | fail)) rfl rfl rfl ?_) | (refine AO.op (O.callL rfl Try.func21 rfl rfl rfl (by repeat (first | exact List.Mem.head _ | refine List.Mem.tail _ ?_)) (newer_fn _ _ _ _ (by omega)) (by (repeat (first | exact LendL.nil | refine LendL.same ?_ | refine LendL.lend ?_)); first | done | fail)) rfl rfl rfl ?_) | (refine AO.no rfl rfl rfl ?_)
  first | (refine AO.op (O.pickAnd rfl rfl rfl rfl (fun h => by first | exact h | simp_all)) rfl rfl rfl ?_) | (refine AO.op (O.pickF rfl rfl rfl) rfl rfl rfl ?_) | (refine AO.op (O.pickT rfl rfl rfl) rfl rfl rfl ?_)
  refine AO.op (O.move rfl rfl) rfl rfl rfl ?_
  first | (refine AO.opG rfl rfl rfl (fun hp => O.call rfl Try.func21 rfl rfl rfl (newer_fn _ _ _ _ (by omega))) ?_) | (refine AO.opG rfl rfl rfl (fun hp => O.callC rfl Try.func21 rfl rfl rfl (newer_fn _ _ _ _ (by omega)) (by (repeat (first | exact CoeL.nil | refine CoeL.cons Coe.rfl ?_ | refine CoeL.cons Coe.nil ?_ | refine CoeL.cons Coe.unfull ?_ | refine CoeL.cons (Coe.agg ?_) ?_ | refine CoeL.cons (Coe.tup ?_) ?_ | refine CoeL.cons (Coe.ro ?_) ?_)); first | done | fail)) ?_) | (refine AO.opG rfl rfl rfl (fun hp => O.callL rfl Try.func21 rfl rfl rfl (by repeat (first | exact List.Mem.head _ | refine List.Mem.tail _ ?_)) (newer_fn _ _ _ _ (by omega)) (by (repeat (first | exact LendL.nil | refine LendL.same ?_ | refine LendL.lend ?_)); first | done | fail)) ?_) | (refine AO.op (O.call rfl Try.func21 rfl rfl rfl (newer_fn _ _ _ _ (by omega))) rfl rfl rfl ?_) | (refine AO.op (O.callC rfl Try.func21 rfl rfl rfl (newer_fn _ _ _ _ (by omega)) (by (repeat (first | exact CoeL.nil | refine CoeL.cons Coe.rfl ?_ | refine CoeL.cons Coe.nil ?_ | refine CoeL.cons Coe.unfull ?_ | refine CoeL.cons (Coe.agg ?_) ?_ | refine CoeL.cons (Coe.tup ?_) ?_ | refine CoeL.cons (Coe.ro ?_) ?_)); first | done | fail)) rfl rfl rfl ?_) | (refine AO.op (O.callL rfl Try.func21 rfl rfl rfl (by repeat (first | exact List.Mem.head _ | refine List.Mem.tail _ ?_)) (newer_fn _ _ _ _ (by omega)) (by (repeat (first | exact LendL.nil | refine LendL.same ?_ | refine LendL.lend ?_)); first | done | fail)) rfl rfl rfl ?_) | (refine AO.no rfl rfl rfl ?_)
  first | (refine AO.opG rfl rfl rfl (fun hp => OpW.force 41 rfl (by first | exact hp | simp_all) (O.not rfl rfl (by first | assumption | rfl))) ?_) | (refine AO.op (O.not rfl rfl (by first | assumption | rfl)) rfl rfl rfl ?_) | (refine AO.no rfl rfl rfl ?_)
  first | (refine AO.op (O.pickAnd rfl rfl rfl rfl (fun h => by first | exact h | simp_all)) rfl rfl rfl ?_) | (refine AO.op (O.pickF rfl rfl rfl) rfl rfl rfl ?_) | (refine AO.op (O.pickT rfl rfl rfl) rfl rfl rfl ?_)
  refine AO.op (O.move rfl rfl) rfl rfl rfl ?_
  first | (refine AO.opG rfl rfl rfl (fun hp => O.call rfl Try.func21 rfl rfl rfl (newer_fn _ _ _ _ (by omega))) ?_) | (refine AO.opG rfl rfl rfl (fun hp => O.callC rfl Try.func21 rfl rfl rfl (newer_fn _ _ _ _ (by omega)) (by (repeat (first | exact CoeL.nil | refine CoeL.cons Coe.rfl ?_ | refine CoeL.cons Coe.nil ?_ | refine CoeL.cons Coe.unfull ?_ | refine CoeL.cons (Coe.agg ?_) ?_ | refine CoeL.cons (Coe.tup ?_) ?_ | refine CoeL.cons (Coe.ro ?_) ?_)); first | done | fail)) ?_) | (refine AO.opG rfl rfl rfl (fun hp => O.callL rfl Try.func21 rfl rfl rfl (by repeat (first | exact List.Mem.head _ | refine List.Mem.tail _ ?_)) (newer_fn _ _ _ _ (by omega)) (by (repeat (first | exact LendL.nil | refine LendL.same ?_ | refine LendL.lend ?_)); first | done | fail)) ?_) | (refine AO.op (O.call rfl Try.func21 rfl rfl rfl (newer_fn _ _ _ _ (by omega))) rfl rfl rfl ?_) | (refine AO.op (O.callC rfl Try.func21 rfl rfl rfl (newer_fn _ _ _ _ (by omega)) (by (repeat (first | exact CoeL.nil | refine CoeL.cons Coe.rfl ?_ | refine CoeL.cons Coe.nil ?_ | refine CoeL.cons Coe.unfull ?_ | refine CoeL.cons (Coe.agg ?_) ?_ | refine CoeL.cons (Coe.tup ?_) ?_ | refine CoeL.cons (Coe.ro ?_) ?_)); first | done | fail)) rfl rfl rfl ?_) | (refine AO.op (O.callL rfl Try.func21 rfl rfl rfl (by repeat (first | exact List.Mem.head _ | refine List.Mem.tail _ ?_)) (newer_fn _ _ _ _ (by omega)) (by (repeat (first | exact LendL.nil | refine LendL.same ?_ | refine LendL.lend ?_)); first | done | fail)) rfl rfl rfl ?_) | (refine AO.no rfl rfl rfl ?_)
  first | (refine AO.op (O.pickAnd rfl rfl rfl rfl (fun h => by first | exact h | simp_all)) rfl rfl rfl ?_) | (refine AO.op (O.pickF rfl rfl rfl) rfl rfl rfl ?_) | (refine AO.op (O.pickT rfl rfl rfl) rfl rfl rfl ?_)
  refine AO.op (O.assign rfl rfl) rfl rfl rfl ?_
  refine AO.nil ?_
  refine AQ.thenN ?_
  refine AW.ret ?_
  refine AQ.ret1 rfl rfl ⟨_, List.nil_sublist _, .nil⟩ (⟨by rfl, rfl⟩)
end Go.Proofs.Ytlcoanbdaephiaa.Ob

namespace Go.Proofs.Ytlcoanbdaephiaa.A
open Go.RowKit L
set_option linter.unusedVariables false
set_option linter.unusedSimpArgs false
/-- A number's byte. -/
def u8 (x : Int) : UInt8 := UInt8.ofNat (x % 256).toNat
theorem u8_toNat (x : Int) : ((u8 x).toNat : Int) = x % 256 := by
  have h1 := Int.emod_nonneg x (show (256 : Int) ≠ 0 by omega)
  have h2 := Int.emod_lt_of_pos x (show (0 : Int) < 256 by omega)
  rw [u8, UInt8.toNat_ofNat_of_lt' (by simp [UInt8.size]; omega)]
  omega
theorem wU8any {x : Int} : IntKind.u8.wrap x = ((u8 x).toNat : Int) := by
  rw [u8_toNat]; rfl
section
variable {Γ : Cx} {P : Program} {Q : Exit → Act → World → Prop} {E : Env} {H : List HE} {N : Nat} {o : Oper} {ops : Array Oper} {rest : List Oper}

def IsM (v : AV) (e : HE) : AV → List HE → Prop := fun r H' => r = v ∧ H' = [e]

theorem perm_idx : ∀ {H : List HE} {i : Nat} {e : HE}, H[i]? = some e → H.Perm (e :: H.eraseIdx i)
  | [], i, e, h => by simp at h
  | x :: r, 0, e, h => by simp at h; subst h; exact List.Perm.refl _
  | x :: r, i + 1, e, h => ((perm_idx (H := r) (i := i) (by simpa using h)).cons x).trans (List.Perm.swap ..)
theorem perm_set : ∀ {H : List HE} {i : Nat} {e e' : HE}, H[i]? = some e → (e' :: H.eraseIdx i).Perm (H.set i e')
  | [], i, e, e', h => by simp at h
  | x :: r, 0, e, e', h => List.Perm.refl _
  | x :: r, i + 1, e, e', h => (List.Perm.swap ..).trans ((perm_set (H := r) (i := i) (e' := e') (by simpa using h)).cons x)

theorem AO.perm {H' : List HE} {l : List Oper} (hp : H.Perm H') (h : AO Γ P ops Q l E H') : AO Γ P ops Q l E H := fun R a W hs ha => h R a W (hs.perm hp.symm) ha

/-- A call that leaves one block of the caller's changed. -/
theorem AO.callM1 {f : FuncId} {d : Nat} {xs : List Operand} {ats : Array TypeId} {args : List AV} {i : Nat} {e e' : HE} {v : AV} {H' : List HE} {fn : Func} (ho : o.op = .call { callee := .value (.func f), args := xs.toArray, argTypes := ats }) (hgd : o.guard = none) (hfn : P.funcs[f]? = some fn) (hn : (fn.name == "runtime.NumGoroutine") = false) (hb : fn.body.isNone = false)
    (hx : evs E xs = some args) (hd : o.dst = some d) (hN : Nat.ble (d + 1) Γ.N = true) (hi : H[i]? = some e) (h : Sp P f args [e] (IsM v e')) (hH : H.set i e' = H') (next : AO Γ P ops Q rest ((d, v) :: E) H') : AO Γ P ops Q (o :: rest) E H :=
  AO.callM (H0 := [e]) (H1 := H.eraseIdx i) ho hgd hfn hn hb hx hd (Nat.le_of_ble_eq_true hN) (perm_idx hi) h (by
    rintro _ _ ⟨rfl, rfl⟩
    exact AO.perm (by rw [← hH]; exact perm_set hi) next)
/-- .. and whatever else. -/
theorem AO.callMG {f : FuncId} {d : Nat} {xs : List Operand} {ats : Array TypeId} {args : List AV} (i : Nat) {e : HE} {Post : AV → List HE → Prop} {fn : Func} (ho : o.op = .call { callee := .value (.func f), args := xs.toArray, argTypes := ats }) (hgd : o.guard = none) (hfn : P.funcs[f]? = some fn) (hn : (fn.name == "runtime.NumGoroutine") = false) (hb : fn.body.isNone = false)
    (hx : evs E xs = some args) (hd : o.dst = some d) (hN : Nat.ble (d + 1) Γ.N = true) (hi : H[i]? = some e) (h : Sp P f args [e] Post) (next : ∀ r H', Post r H' → AO Γ P ops Q rest ((d, r) :: E) (H' ++ H.eraseIdx i)) : AO Γ P ops Q (o :: rest) E H :=
  AO.callM (H0 := [e]) (H1 := H.eraseIdx i) ho hgd hfn hn hb hx hd (Nat.le_of_ble_eq_true hN) (perm_idx hi) h next

/-- The row reads as this while it is lent. -/
theorem row_ro {R : Nat → Prop} {W : World} {v : Value} {T sz n : Nat} {xs : List AV} (h : HE.ok R W (.row v T sz n xs)) : RelV (fun b => R b ∨ (HE.row v T sz n xs).foot b) W (.ro false n xs) v := by
  obtain ⟨us, hown, hr⟩ := h
  have hr' := hr.mono (R' := fun b => R b ∨ (HE.row v T sz n xs).foot b) (fun _ h => .inl h) (W' := W) (fun _ _ => rfl)
  rcases hown.2 with ⟨rfl, rfl⟩ | ⟨g, cap, cur, rfl, hbg, hg, h1, h2, h3, h4⟩
  · have : xs = [] := List.eq_nil_of_length_eq_zero (by rw [← hr.1, hown.1]; simp)
    subst this
    exact .emp _ _ _ (fun h => by cases h) (Nat.zero_le _)
  · refine .ro false n xs g 0 cap (fun j => us.getD j undef) (.inr rfl) (fun j hj => ?_) (fun j hj => hr'.2 j hj) h1 h2 (fun h => by cases h)
    have hj' : j < us.length := by rw [hr.1]; exact hj
    have := hown.cells (g := g) rfl j us[j] (by simp [hj'])
    rw [addr_add] at this
    rw [this]
    simp [List.getD, hj']

inductive LendL (v : Value) (y : AV) : List AV → List AV → Prop
  | nil : LendL v y [] []
  | same {a : AV} {r r' : List AV} : LendL v y r r' → LendL v y (a :: r) (a :: r')
  | lend {r r' : List AV} : LendL v y r r' → LendL v y (.val v :: r) (y :: r')
theorem LendL.rel {R R1 : Nat → Prop} {W : World} {v : Value} {y : AV} (hR : ∀ b, R b → R1 b) (hy : RelV R1 W y v) {a a' : List AV} (h : LendL v y a a') : ∀ {us : List Value}, RelL R W a us → RelL R1 W a' us := by
  induction h with
  | nil => intro us h; exact h.mono hR (fun _ _ => rfl)
  | same _ ih =>
    intro us h
    obtain ⟨u, r, rfl, h1, h2⟩ := h.uncons
    exact RelL.cons (h1.mono hR (fun _ _ => rfl)) (ih h2)
  | lend _ ih =>
    intro us h
    obtain ⟨u, r, rfl, h1, h2⟩ := h.uncons
    have := h1.val_inv
    subst this
    exact RelL.cons hy (ih h2)
/-- A call to which a row of the caller's is lent, and whose yield holds no memory. -/
theorem O.callL {f : FuncId} {xs : List Operand} {ats : Array TypeId} {args args' : List AV} {v c : Value} {T sz n : Nat} {rs : List AV} {fn : Func} (ho : o.op = .call { callee := .value (.func f), args := xs.toArray, argTypes := ats }) (hfn : P.funcs[f]? = some fn) (hn : (fn.name == "runtime.NumGoroutine") = false) (hb : fn.body.isNone = false)
    (hx : evs E xs = some args) (hm : HE.row v T sz n rs ∈ H) (h : Sp P f args' [] (Is (.val c))) (hl : LendL v (.ro false n rs) args args') : OpW P N o E H (Is (.val c)) := fun R a W h0 h2 h3 ha => by
  have hR : ∀ b, R b → R b ∨ (HE.row v T sz n rs).foot b := fun _ h => .inl h
  have hlt : ∀ b, R b ∨ (HE.row v T sz n rs).foot b → b < W.heap.size := by
    rintro b (hb | hb)
    · exact h0 b hb
    · exact HE.ok_lt (h2 _ hm) hb
  unfold Oper.wp
  rw [run_callF ho hfn hn hb, List.map_toArray]
  have hc := h W _ (xs.map a.eval) hlt (fun e he => by cases he) .nil (hl.rel hR (row_ro (h2 _ hm)) (ha.evs hx))
  refine Calls.mono hc ?_
  rintro e W' ⟨u, r, H', R', rfl, ⟨rfl, rfl⟩, hs, hv⟩
  have p := fn_post1 hs hv hlt
  exact ⟨u, .val c, [], R, rfl, ⟨rfl, rfl⟩, p.ext, fun _ h => h, fun _ h => .inl h, by rw [hv.val_inv]; exact .val _, fun _ he => (by cases he), .nil⟩
end
end Go.Proofs.Ytlcoanbdaephiaa.A

namespace Go.Proofs.Ytlcoanbdaephiaa.A
open Go.RowKit L
set_option linter.unusedVariables false
set_option linter.unusedSimpArgs false
section
variable {Γ : Cx} {P : Program} {Q : Exit → Act → World → Prop} {E : Env} {H : List HE} {N : Nat} {o : Oper} {ops : Array Oper} {rest : List Oper}

end
end Go.Proofs.Ytlcoanbdaephiaa.A

namespace Go.Proofs.Ytlcoanbdaephiaa.A
open Go.RowKit L
set_option linter.unusedVariables false
set_option linter.unusedSimpArgs false
section
variable {Γ : Cx} {P : Program} {Q : Exit → Act → World → Prop} {E : Env} {H : List HE} {N : Nat} {o : Oper} {ops : Array Oper} {rest : List Oper}

def valsOf : List AV → Option (List Value)
  | [] => some []
  | .val v :: r => (valsOf r).map (v :: ·)
  | _ :: _ => none
end
end Go.Proofs.Ytlcoanbdaephiaa.A

namespace Go.Proofs.Ytlcoanbdaephiaa.A
open Go.RowKit L
set_option linter.unusedVariables false
set_option linter.unusedSimpArgs false
section
variable {Γ : Cx} {P : Program} {Q : Exit → Act → World → Prop} {E : Env} {H : List HE} {N : Nat} {o : Oper} {ops : Array Oper} {rest : List Oper}

theorem subPnil {H : List HE} : ∃ H1, H1.Sublist H ∧ ([] : List HE).Perm H1 := ⟨[], List.nil_sublist _, .nil⟩
theorem subPcons (i : Nat) {e : HE} {r H : List HE} (h : H[i]? = some e) (hr : ∃ H1, H1.Sublist (H.eraseIdx i) ∧ r.Perm H1) : ∃ H1, H1.Sublist H ∧ (e :: r).Perm H1 := by
  obtain ⟨H1, h1, h2⟩ := hr
  obtain ⟨hlt, rfl⟩ := List.getElem?_eq_some_iff.1 h
  rw [List.eraseIdx_eq_take_drop_succ, List.sublist_append_iff] at h1
  obtain ⟨A, B, rfl, hA, hB⟩ := h1
  refine ⟨A ++ H[i] :: B, ?_, ?_⟩
  · have e : H = H.take i ++ H[i] :: H.drop (i + 1) := by rw [← List.drop_eq_getElem_cons hlt, List.take_append_drop]
    have h9 : (A ++ H[i] :: B).Sublist (H.take i ++ H[i] :: H.drop (i + 1)) := hA.append (hB.cons_cons _)
    rwa [← e] at h9
  · exact (h2.cons _).trans (List.perm_middle.symm)
/-- What a loop only reads stays as it is. -/
def LoopK (K : Env) (I : Nat → Env → List HE → Prop) : Nat → Env → List HE → Prop := fun n E H => ∃ E1, I n E1 H ∧ E = E1 ++ K
theorem env_app {K E1 : Env} (h1 : ∀ p ∈ E1, look E p.1 = some p.2) (h2 : ∀ p ∈ K, look E p.1 = some p.2) : ∀ p ∈ E1 ++ K, look E p.1 = some p.2 := fun p hp => by
  rcases List.mem_append.1 hp with hp | hp
  · exact h1 p hp
  · exact h2 p hp
theorem AW.loopK {c : Code} (K : Env) (I : Nat → Env → List HE → Prop) (n : Nat) {E0 : Env} {H0 : List HE} (hI : I n E0 H0) (hK : ∀ p ∈ K, look E p.1 = some p.2) (hE : ∀ p ∈ E0, look E p.1 = some p.2) (hH : ∃ H1, H1.Sublist H ∧ H0.Perm H1)
    (round : ∀ n E1 H, I n E1 H → AW Γ P (LoopQ (LoopK K I) n Γ Q) c (E1 ++ K) H) : AW Γ P Q (.loop c) E H :=
  AW.loop (LoopK K I) n (E0 := E0 ++ K) (H0 := H0) ⟨E0, hI, rfl⟩ (env_app hE hK) hH (by
    rintro n _ H ⟨E1, h, rfl⟩
    exact round n E1 H h)
theorem AQ.loopKN {K : Env} {I : Nat → Env → List HE → Prop} {n : Nat} (m : Nat) (E1 : Env) (H0 : List HE) (hm : m < n) (hI : I m E1 H0) (hK : ∀ p ∈ K, look E p.1 = some p.2) (hE : ∀ p ∈ E1, look E p.1 = some p.2) (hH : ∃ H1, H1.Sublist H ∧ H0.Perm H1) :
    AQ Γ (LoopQ (LoopK K I) n Γ Q) .normal E H := AQ.loopN m (E1 ++ K) H0 hm ⟨E1, hI, rfl⟩ (env_app hE hK) hH

/-- Of a block less is known. -/
theorem G.short {X : Act → World → Prop} (i m : Nat) {b T room : Nat} {xs : List AV} (hi : H[i]? = some (.blk b T room xs)) (k : G Γ E (H.set i (.blk b T room (xs.take m))) X) : G Γ E H X := fun R a W hs ha => by
  have hmem := List.mem_of_getElem? hi
  obtain ⟨us, cs, hb, hsz, ht, hrl⟩ := hs.ok _ hmem
  refine k R a W (hs.setSame hi (fun c hc => hc) ⟨us.take m, cs, hb, hsz, ?_, hrl.take m⟩) ha
  rw [← ht, List.take_take, List.length_take]

end
end Go.Proofs.Ytlcoanbdaephiaa.A

namespace Go.Proofs.Ytlcoanbdaephiaa.A
open Go.RowKit L
set_option linter.unusedVariables false
set_option linter.unusedSimpArgs false

section
variable {P : Program} {ops : Array Oper} {N : Nat}

/-- What an operation leaves, its temporary told apart. -/
theorem Oper.wp_put {o : Oper} {a : Act} {w : World} {K : Act → World → Prop} {Q : Exit → Act → World → Prop} (h : o.wp P a w K Q) : o.wp P a w (fun A' W' => K A' W' ∧ ((∃ u, A' = a.put o.dst u) ∨ A'.defers ≠ [])) Q := by
  unfold Oper.wp at h ⊢
  cases hr : (execOp a.eval o).run P w with
  | ok n w' =>
    rw [hr] at h
    cases n with
    | value v => exact ⟨h, .inl ⟨v, rfl⟩⟩
    | skip => exact ⟨h, .inl ⟨_, rfl⟩⟩
    | defer d => exact ⟨h, .inr (by simp [Act.put]; split <;> simp)⟩
    | enter f args =>
      refine Calls.mono h ?_
      intro e w'' he
      cases e with
      | returned v => exact ⟨he, .inl ⟨v, rfl⟩⟩
      | _ => exact he
    | row r args =>
      refine Rows.mono h ?_
      intro v w'' he
      exact ⟨he, .inl ⟨v, rfl⟩⟩
    | _ => exact h
  | halt x w' =>
    rw [hr] at h
    cases x <;> exact h

theorem rst_skip {E : Env} {d : Nat} {v : AV} : ∀ {ts : List Nat}, d ∉ ts → rst ((d, v) :: E) ts = rst E ts
  | [], _ => rfl
  | t :: r, h => by
    simp only [List.mem_cons, not_or] at h
    have hb : Nat.beq d t = false := by
      cases hb : Nat.beq d t with
      | false => rfl
      | true => exact absurd (Nat.eq_of_beq_eq_true hb) h.1
    have hl : look ((d, v) :: E) t = look E t := by simp only [look, hb]; rfl
    rw [rst, rst, hl, rst_skip h.2]
theorem look_skip {E : Env} {d t : Nat} {v : AV} (h : d ≠ t) : look ((d, v) :: E) t = look E t := by
  have hb : Nat.beq d t = false := by
    cases hb : Nat.beq d t with
    | false => rfl
    | true => exact absurd (Nat.eq_of_beq_eq_true hb) h
  simp only [look, hb]; rfl
theorem look_here {E : Env} {d : Nat} {v : AV} : look ((d, v) :: E) d = some v := by simp [look]

/-- What a writing operation leaves. -/
def QS (Γ : Cx) (d : Option Nat) (S : AV → List HE → Prop) : Exit → Act → World → Prop := fun x a W =>
  match x with
  | .normal => a.defers = [] ∧ ∃ v H' R', S v H' ∧ RelS Γ R' H' W ∧ ∀ t, d = some t → RelV R' W v (a.eval (.tmp t))
  | _ => False
def putE : Option Nat → AV → Env → Env
  | some d, v, E => (d, v) :: E
  | none, _, E => E

/-- Operations in this order: true those that write, false those that read. -/
def AM (P : Program) (N : Nat) (ops : Array Oper) (Hs : List HE) (K : Env → List HE → Prop) : List (Nat × Bool) → Env → List HE → Prop
  | [], E, H => K E H
  | (i, true) :: r, E, H => ∃ o, ops[i]? = some o ∧ ∀ w0 R0, AO ⟨w0, footOf H, R0, N⟩ P ops (QS ⟨w0, footOf H, R0, N⟩ o.dst (fun v H' => AM P N ops Hs K r (putE o.dst v E) H')) [o] (rst E (o.looksAt ops)) H
  | (i, false) :: r, E, H => ∃ o d v, ops[i]? = some o ∧ o.dst = some d ∧ d < N ∧ OpF P N ops o (rst E (o.looksAt ops)) Hs (Is v) ∧ AM P N ops Hs K r ((d, v) :: E) H

/-- One operation ahead of another. -/
def ordPair (ops : Array Oper) (an : List (List Nat)) (i : Nat) (b : Bool) (j : Nat) (c : Bool) : Bool :=
  match ops[i]?, ops[j]? with
  | some oi, some oj =>
    let waits := oj.after.any fun e => Region.binds .any e && e.on == i
    let anc := (an.getD j []).contains i
    (i != j) && (!b || anc) &&
    (match oj.dst with
      | some d => if c then (!((oi.looksAt ops).contains d || oi.dst == some d)) || anc else !(oi.looksAt ops).contains d && oi.dst != some d
      | none => c) &&
    (match oi.dst with
      | some d => !(oj.looksAt ops).contains d || waits
      | none => true)
  | _, _ => false
def ordPairs (ops : Array Oper) (an : List (List Nat)) : List (Nat × Bool) → Bool
  | [] => true
  | (i, b) :: r => (b || (match ops[i]? with | some o => (match o.dst with | some d => !(o.looksAt ops).contains d | none => false) | none => false)) && r.all (fun q => ordPair ops an i b q.1 q.2) && ordPairs ops an r
def ordOk (ops : Array Oper) (ord : List (Nat × Bool)) : Bool :=
  ((List.range ops.size).all fun i => (ord.map Prod.fst).contains i) && (ord.all fun q => decide (q.1 < ops.size)) &&
  ((List.range ops.size).all fun i => (ops[i]?).all fun o => o.after.all fun e => !Region.binds .any e || decide (e.on < i)) && ordPairs ops (ancs ops.toList []) ord

theorem ordPairs_app {an : List (List Nat)} : ∀ {pre r : List (Nat × Bool)}, ordPairs ops an (pre ++ r) = true → ordPairs ops an r = true ∧ ∀ q ∈ pre, ∀ s ∈ r, ordPair ops an q.1 q.2 s.1 s.2 = true
  | [], r, h => ⟨h, fun q hq => by cases hq⟩
  | (i, b) :: pre, r, h => by
    rw [List.cons_append, ordPairs] at h
    simp only [Bool.and_eq_true, List.all_eq_true] at h
    obtain ⟨h1, h2⟩ := ordPairs_app h.2
    refine ⟨h1, fun q hq s hs => ?_⟩
    rcases List.mem_cons.1 hq with rfl | hq
    · exact h.1.2 s (List.mem_append_right _ hs)
    · exact h2 q hq s hs

structure PairOk (ops : Array Oper) (an : List (List Nat)) (i : Nat) (b : Bool) (oi : Oper) (j : Nat) (c : Bool) (oj : Oper) : Prop where
  ne : i ≠ j
  main : b = true → i ∈ an.getD j []
  flt : c = false → ∃ d, oj.dst = some d ∧ d ∉ oi.looksAt ops ∧ oi.dst ≠ some d
  mn : c = true → ∀ d, oj.dst = some d → (d ∈ oi.looksAt ops ∨ oi.dst = some d) → i ∈ an.getD j []
  reads : ∀ d, oi.dst = some d → d ∈ oj.looksAt ops → ∃ e ∈ oj.after, Region.binds .any e = true ∧ e.on = i
theorem pairOk {an : List (List Nat)} {i j : Nat} {b c : Bool} {oi oj : Oper} (h : ordPair ops an i b j c = true) (hi : ops[i]? = some oi) (hj : ops[j]? = some oj) : PairOk ops an i b oi j c oj := by
  unfold ordPair at h
  rw [hi, hj] at h
  simp only [Bool.and_eq_true, bne_iff_ne, ne_eq] at h
  obtain ⟨⟨⟨h1, h2⟩, h3⟩, h4⟩ := h
  refine ⟨h1, fun hb => ?_, fun hc => ?_, fun hc d hd hm => ?_, fun d hd hm => ?_⟩
  · subst hb; simpa using h2
  · subst hc
    cases hd : oj.dst with
    | none => rw [hd] at h3; cases h3
    | some d =>
      rw [hd] at h3
      simp at h3
      exact ⟨d, rfl, h3.1, h3.2⟩
  · subst hc
    rw [hd] at h3
    simp at h3
    rcases h3 with h3 | h3
    · rcases hm with hm | hm
      · exact absurd hm h3.1
      · exact absurd hm h3.2
    · exact h3
  · rw [hd] at h4
    simp only [Bool.or_eq_true, Bool.not_eq_true', List.contains_eq_mem, decide_eq_false_iff_not] at h4
    rcases h4 with h4 | h4
    · exact absurd hm h4
    · obtain ⟨x, hx, hx2⟩ := any_mem h4
      simp only [Bool.and_eq_true, beq_iff_eq] at hx2
      exact ⟨x, hx, hx2.1, hx2.2⟩

/-- Two steps, the first over all, the second over what it may write. -/
theorem RelS.part {Γ : Cx} {R R' : Nat → Prop} {Hm Hs H' : List HE} {W W' : World} (hs0 : RelS Γ R (Hm ++ Hs) W) (hs' : RelS ⟨W, footOf Hm, R, N⟩ R' H' W') : RelS Γ R' (H' ++ Hs) W' ∧ ∀ b, R b → W'.heap[b]? = W.heap[b]? := by
  have hS0 : ∀ b, footOf Hm b → Γ.w0.heap.size ≤ b ∨ Γ.S b := fun b ⟨e, he, hb⟩ => (hs0.own e (List.mem_append_left _ he) b hb).1
  have hnR : ∀ b, footOf Hm b → ¬ R b := fun b ⟨e, he, hb⟩ => (hs0.own e (List.mem_append_left _ he) b hb).2
  have h1lt : ∀ e ∈ Hs, ∀ b, e.foot b → b < W.heap.size := fun e he b hb => HE.ok_lt (hs0.ok e (List.mem_append_right _ he)) hb
  have h10 : ∀ e ∈ Hs, ∀ b, e.foot b → ¬ footOf Hm b := fun e he b hb ⟨f, hf, hb'⟩ => (List.pairwise_append.1 hs0.disj).2.2 f hf e he b hb' hb
  have hR : ∀ b, R b → W'.heap[b]? = W.heap[b]? := fun b hb => hs'.mods.block b (hs0.rlt b hb) fun hh => hnR b hh hb
  refine ⟨⟨Mods.then hs0.mods hs'.mods fun b hb hh => ?_, hs'.rlt, fun b hb => hs'.rsub b (hs0.rsub b hb), fun b hb => ?_, ?_, ?_, ?_⟩, hR⟩
  · rcases hS0 b hh with h | h
    · omega
    · exact h
  · rcases hs'.rnew b hb with h | h | h
    · exact hs0.rnew b h
    · exact .inr (.inl (Nat.le_trans hs0.mods.size h))
    · exact .inr (hS0 b h)
  · intro e he
    rcases List.mem_append.1 he with he | he
    · exact hs'.ok e he
    · exact HE.ok_mono hs'.rsub hR hs'.mods.size (fun b hb => hs'.mods.block b (h1lt e he b hb) (h10 e he b hb)) (hs0.ok e (List.mem_append_right _ he))
  · intro e he b hb
    rcases List.mem_append.1 he with he | he
    · obtain ⟨h2, h3⟩ := hs'.own e he b hb
      refine ⟨?_, h3⟩
      rcases h2 with h2 | h2
      · exact .inl (Nat.le_trans hs0.mods.size h2)
      · exact hS0 b h2
    · refine ⟨(hs0.own e (List.mem_append_right _ he) b hb).1, fun hr => ?_⟩
      rcases hs'.rnew b hr with h | h | h
      · exact (hs0.own e (List.mem_append_right _ he) b hb).2 h
      · have h5 := h1lt e he b hb
        exact absurd h (by simpa using h5)
      · exact h10 e he b hb h
  · rw [List.pairwise_append]
    refine ⟨hs'.disj, (List.pairwise_append.1 hs0.disj).2.1, fun e he f hf b hb hb' => ?_⟩
    rcases (hs'.own e he b hb).1 with h | h
    · have h5 := h1lt f hf b hb'
      exact absurd h (by simpa using h5)
    · exact h10 f hf b hb' h

/-- The state on the way. -/
structure MI (P : Program) (Γ : Cx) (ops : Array Oper) (Hs : List HE) (K : Env → List HE → Prop) (ord : List (Nat × Bool)) (listed : Array Bool) (A : Act) (W : World) (pre ms : List (Nat × Bool)) (Pd : List Nat) (E : Env) (H : List HE) (R : Nat → Prop) : Prop where
  size : listed.size = ops.size
  closed : Closed ops listed
  part : ∀ i, i < ops.size → (listed.getD i false = false ↔ i ∈ Pd ∨ i ∈ ms.map Prod.fst)
  ord : ord = pre ++ ms
  pdp : ∀ i ∈ Pd, (i, false) ∈ pre
  am : AM P Γ.N ops Hs K ms E H
  pend : ∀ i ∈ Pd, ∃ o d v, ops[i]? = some o ∧ o.dst = some d ∧ d < Γ.N ∧ look E d = some v ∧ OpF P Γ.N ops o (rst E (o.looksAt ops)) Hs (Is v)
  rels : RelS Γ R (H ++ Hs) W
  defers : A.defers = []
  tmps : A.tmps.size = Γ.N
  act : ∀ t v, look E t = some v → (∀ i ∈ Pd, ∀ o, ops[i]? = some o → o.dst ≠ some t) → RelV R W v (A.eval (.tmp t))

variable {Γ : Cx} {Hs : List HE} {K : Env → List HE → Prop} {ord : List (Nat × Bool)}

/-- What reads is pending as soon as it may run. -/
theorem MI.absorb {listed : Array Bool} {A : Act} {W : World} {R : Nat → Prop} (hok : ordPairs ops (ancs ops.toList []) ord = true) : ∀ (ms pre : List (Nat × Bool)) (Pd : List Nat) (E : Env) (H : List HE), MI P Γ ops Hs K ord listed A W pre ms Pd E H R →
    ∃ pre' ms' Pd' E', MI P Γ ops Hs K ord listed A W pre' ms' Pd' E' H R ∧ (ms' = [] ∨ ∃ m r, ms' = (m, true) :: r)
  | [], pre, Pd, E, H, h => ⟨pre, [], Pd, E, h, .inl rfl⟩
  | (m, true) :: r, pre, Pd, E, H, h => ⟨pre, _, Pd, E, h, .inr ⟨m, r, rfl⟩⟩
  | (j, false) :: r, pre, Pd, E, H, h => by
    obtain ⟨o, d, v, ho, hd, hN, hop, ham⟩ := h.am
    have hord := h.ord
    have hq := ordPairs_app (pre := pre) (r := (j, false) :: r) (by rw [← hord]; exact hok)
    have hself : d ∉ o.looksAt ops := by
      have := hq.1
      rw [ordPairs] at this
      simp only [Bool.and_eq_true, ho, hd, Bool.false_or] at this
      simpa using this.1.1
    have hp : ∀ i ∈ Pd, ∀ oi, ops[i]? = some oi → d ∉ oi.looksAt ops ∧ oi.dst ≠ some d := fun i hi oi hoi => by
      have := pairOk (hq.2 _ (h.pdp i hi) (j, false) (List.mem_cons_self ..)) hoi ho
      obtain ⟨d', h1, h2, h3⟩ := this.flt rfl
      rw [hd] at h1
      cases h1
      exact ⟨h2, h3⟩
    refine MI.absorb hok r (pre ++ [(j, false)]) (j :: Pd) ((d, v) :: E) H ⟨h.size, h.closed, fun i hi => ?_, by rw [hord]; simp, fun i hi => ?_, ham, fun i hi => ?_, h.rels, h.defers, h.tmps, fun t x ht hpd => ?_⟩
    · rw [h.part i hi]
      simp only [List.map_cons, List.mem_cons]
      constructor
      · rintro (h | h | h)
        · exact .inl (.inr h)
        · exact .inl (.inl h)
        · exact .inr h
      · rintro ((h | h) | h)
        · exact .inr (.inl h)
        · exact .inl h
        · exact .inr (.inr h)
    · rcases List.mem_cons.1 hi with rfl | hi
      · simp
      · exact List.mem_append_left _ (h.pdp i hi)
    · rcases List.mem_cons.1 hi with rfl | hi
      · exact ⟨o, d, v, ho, hd, hN, look_here, by rw [rst_skip hself]; exact hop⟩
      · obtain ⟨oi, di, vi, h1, h2, h3, h4, h5⟩ := h.pend i hi
        obtain ⟨h6, h7⟩ := hp i hi oi h1
        refine ⟨oi, di, vi, h1, h2, h3, ?_, by rw [rst_skip h6]; exact h5⟩
        rw [look_skip (fun e => h7 (by rw [h2, e]))]; exact h4
    · have hne : d ≠ t := fun e => hpd j (List.mem_cons_self ..) o ho (by rw [hd, e])
      rw [look_skip hne] at ht
      exact h.act t x ht fun i hi => hpd i (List.mem_cons_of_mem _ hi)

theorem MI.reads {listed : Array Bool} {A : Act} {W : World} {R : Nat → Prop} {pre ms : List (Nat × Bool)} {Pd : List Nat} {E : Env} {H : List HE} (hok : ordPairs ops (ancs ops.toList []) ord = true) (h : MI P Γ ops Hs K ord listed A W pre ms Pd E H R)
    {i : Nat} {b : Bool} {o : Oper} (ho : ops[i]? = some o) (hdeps : ∀ e ∈ o.after, Region.binds .any e = true → listed.getD e.on false = true) (hi : (i, b) ∈ pre ∧ i ∈ Pd ∧ b = false ∨ ∃ r, ms = (i, b) :: r) : RelA Γ.N R W (rst E (o.looksAt ops)) A := by
  refine ⟨h.defers, h.tmps, fun t v ht => ?_⟩
  obtain ⟨htl, ht⟩ := look_rst ht
  refine h.act t v ht fun k hk ok hok' hdk => ?_
  have hkp := h.pdp k hk
  have hkf : listed.getD k false = false := (h.part k (Array.getElem?_eq_some_iff.1 hok').1).2 (.inl hk)
  have direct : ordPair ops (ancs ops.toList []) k false i b = true → False := fun hp => by
    obtain ⟨e, he, hb, hon⟩ := (pairOk hp hok' ho).reads t hdk htl
    have := hdeps e he hb
    rw [hon, hkf] at this; cases this
  rcases hi with ⟨hip, hiP, rfl⟩ | ⟨r, hms⟩
  · -- both ahead
    obtain ⟨p1, p2, hp12⟩ := List.append_of_mem hkp
    have hord := h.ord
    rw [hp12, List.append_assoc] at hord
    rw [hp12] at hip
    rcases List.mem_append.1 hip with hip | hip
    · -- i ahead of k
      have hq := ordPairs_app (pre := p1) (by rw [← hord]; exact hok)
      have := pairOk (hq.2 _ hip (k, false) (List.mem_cons_self ..)) ho hok'
      obtain ⟨d', h1, h2, -⟩ := this.flt rfl
      rw [hdk] at h1; cases h1
      exact h2 htl
    · rcases List.mem_cons.1 hip with he | hip
      · cases he
        -- itself
        have hq := (ordPairs_app (pre := p1) (by rw [← hord]; exact hok)).1
        rw [List.cons_append, ordPairs] at hq
        simp only [Bool.and_eq_true] at hq
        obtain rfl : o = ok := by rw [ho] at hok'; exact Option.some.inj hok'
        have := hq.1.1
        rw [ho] at this
        simp only [hdk, Bool.false_or] at this
        simp at this
        exact this htl
      · rw [show p1 ++ ((k, false) :: p2 ++ ms) = (p1 ++ [(k, false)]) ++ (p2 ++ ms) by simp] at hord
        have hq := ordPairs_app (pre := p1 ++ [(k, false)]) (by rw [← hord]; exact hok)
        exact direct (hq.2 (k, false) (by simp) (i, false) (List.mem_append_left _ hip))
  · have hq := ordPairs_app (pre := pre) (r := ms) (by rw [← h.ord]; exact hok)
    exact direct (hq.2 _ hkp (i, b) (by rw [hms]; exact List.mem_cons_self ..))

/-- What the region may write, and what not. -/
def SplitH (E : Env) (H Hm Hs : List HE) : Prop := H.Perm (Hm ++ Hs)
/-! One operation. -/
theorem AM.op {i d : Nat} {r : List (Nat × Bool)} {E : Env} {H : List HE} {o : Oper} {v : AV} (ho : ops[i]? = some o) (h : OpW P N o (rst E (o.looksAt ops)) Hs (Is v)) (hw : wantedIs ops (rst E (o.looksAt ops)) o = some true) (hd : o.dst = some d) (hN : Nat.ble (d + 1) N = true) (k : AM P N ops Hs K r ((d, v) :: E) H) :
    AM P N ops Hs K ((i, false) :: r) E H := ⟨o, d, v, ho, hd, Nat.le_of_ble_eq_true hN, .run hw h, k⟩
theorem AM.opG {i d : Nat} {r : List (Nat × Bool)} {E : Env} {H : List HE} {o : Oper} {c : Bool} {v : AV} (ho : ops[i]? = some o) (hw : guardIs ops (rst E (o.looksAt ops)) o = some c) (hd : o.dst = some d) (hN : Nat.ble (d + 1) N = true) (h : c = true → OpW P N o (rst E (o.looksAt ops)) Hs (Is v)) (k : AM P N ops Hs K r ((d, .opt c v) :: E) H) :
    AM P N ops Hs K ((i, false) :: r) E H := ⟨o, d, _, ho, hd, Nat.le_of_ble_eq_true hN, .opt hw h, k⟩
theorem AM.no {i d : Nat} {r : List (Nat × Bool)} {E : Env} {H : List HE} {o : Oper} (ho : ops[i]? = some o) (hw : wantedIs ops (rst E (o.looksAt ops)) o = some false) (hd : o.dst = some d) (hN : Nat.ble (d + 1) N = true) (k : AM P N ops Hs K r ((d, .val undef) :: E) H) :
    AM P N ops Hs K ((i, false) :: r) E H := ⟨o, d, _, ho, hd, Nat.le_of_ble_eq_true hN, .no hw, k⟩
theorem AM.main {i : Nat} {r : List (Nat × Bool)} {E : Env} {H : List HE} (o : Oper) (ho : ops[i]? = some o) (h : ∀ w0 R0, AO ⟨w0, footOf H, R0, N⟩ P ops (QS ⟨w0, footOf H, R0, N⟩ o.dst (fun v H' => AM P N ops Hs K r (putE o.dst v E) H')) [o] (rst E (o.looksAt ops)) H) :
    AM P N ops Hs K ((i, true) :: r) E H := ⟨o, ho, h⟩
theorem AM.ok {w0 : World} {S0 R0 : Nat → Prop} {d : Nat} {v : AV} {S : AV → List HE → Prop} {E1 : Env} {H' : List HE} (h : S v H') : AO ⟨w0, S0, R0, N⟩ P ops (QS ⟨w0, S0, R0, N⟩ (some d) S) [] ((d, v) :: E1) H' := fun R a W hs ha =>
  ⟨ha.defers, v, H', R, h, hs, fun t ht => by cases ht; exact ha.slots d v look_here⟩
theorem AM.nil {E : Env} {H : List HE} (h : K E H) : AM P N ops Hs K [] E H := h
end
end Go.Proofs.Ytlcoanbdaephiaa.A

namespace Go.Proofs.Ytlcoanbdaephiaa.A
open Go.RowKit L
set_option linter.unusedVariables false
set_option linter.unusedSimpArgs false
section
variable {x y q m : Int}
end
section
variable {Γ : Cx} {P : Program} {E : Env} {H : List HE} {N : Nat} {o : Oper}
end
end Go.Proofs.Ytlcoanbdaephiaa.A

namespace Go.Proofs.Ytlcoanbdaephiaa.A
open Go.RowKit L
set_option linter.unusedVariables false
set_option linter.unusedSimpArgs false
section
variable {Γ : Cx} {P : Program} {Q : Exit → Act → World → Prop} {E : Env} {H : List HE}
/-- Where the two ways meet. -/
def Mid (Γ : Cx) (Q : Exit → Act → World → Prop) (φ : Prop) (E1 : Env) (H1 : List HE) : Exit → Act → World → Prop := Exit.then (fun a W => φ ∧ ∃ R, RelS Γ R H1 W ∧ RelA Γ.N R W E1 a) Q
/-- Where the two ways meet, told by a relation. -/
def MidI (Γ : Cx) (Q : Exit → Act → World → Prop) (K : Env) (I : Env → List HE → Prop) : Exit → Act → World → Prop := Exit.then (fun a W => ∃ E1 H1 R, I E1 H1 ∧ RelS Γ R H1 W ∧ RelA Γ.N R W (E1 ++ K) a) Q
/-- Results out of a box, in other words: nil reads as nothing. -/
theorem FnQ.coe {Γ : Cx} {P : Program} {fn : Func} {Post : AV → List HE → Prop} {E : Env} {H : List HE} {r r' : AV} {H' : List HE} (h : AQ Γ (FnQ Γ P fn (fun q K => q = r ∧ K = H')) .ret E H) (hc : Coe r r') (hp : Post r' H') : AQ Γ (FnQ Γ P fn Post) .ret E H := fun R a W hs ha => by
  have := h R a W hs ha
  unfold FnQ at this ⊢
  obtain ⟨hd, v, hv, u, q, K, R', he, ⟨rfl, rfl⟩, h1, h2⟩ := this
  exact ⟨hd, v, hv, u, _, _, R', he, hp, h1, hc R' W u h2⟩
theorem Coe.tup {x y : List AV} (h : CoeL x y) : Coe (.tup x) (.tup y) := fun R W u hu => by
  obtain ⟨us, rfl, h1⟩ := hu.tup_inv
  exact (h R W us h1).toTup
end
end Go.Proofs.Ytlcoanbdaephiaa.A

namespace Go.Proofs.Ytlcoanbdaephiaa.Dk
open Go.RowKit L A
set_option linter.unusedVariables false
set_option linter.unusedSimpArgs false
attribute [local irreducible] AW AQ AO

theorem mod_fn (v n : Int) (h1 : 0 < n) (h2 : n ≤ 4611686018427387904) : Sp Try.prog 17 [.val (.int .i64 v), .val (.int .i64 n)] [] (Is (.val (.int .i64 (v % n)))) := by
  have hf := tmod_fix2 v n h1
  have hlt : v.tmod n < n := Int.tmod_lt_of_pos v h1
  have hge : -n < v.tmod n := by
    rcases Int.le_total 0 v with hv | hv
    · have := Int.tmod_nonneg n hv; omega
    · have := Int.lt_tmod_of_pos v h1; omega
  refine Sp.enter Try.func17 rfl _ Try.ntmps17 rfl (fun w0 R0 => ?_)
  refine AW.seq ?_
  refine AW.region ?_
  refine AO.op (O.assign rfl rfl) rfl rfl rfl ?_
  refine AO.nil ?_
  refine AQ.thenN ?_
  refine AW.seq ?_
  refine AW.region ?_
  refine AO.op (O.move rfl rfl) rfl rfl rfl ?_
  refine AO.op (O.move rfl rfl) rfl rfl rfl ?_
  refine AO.op (O.rem rfl rfl rfl (by omega) rfl) rfl rfl rfl ?_
  refine AO.op (O.assign rfl rfl) rfl rfl rfl ?_
  refine AO.nil ?_
  refine AQ.thenN ?_
  refine AW.seq ?_
  refine AW.seq ?_
  refine AW.region ?_
  refine AO.op (O.move rfl rfl) rfl rfl rfl ?_
  refine AO.op (O.lss rfl rfl rfl (by first | exact bTrue (by omega) | exact bFalse (by omega) | assumption | rfl)) rfl rfl rfl ?_
  refine AO.nil ?_
  refine AQ.thenN ?_
  refine AW.split rfl (fun h => ?_) (fun h => ?_)
  · skip
    have h : v.tmod n < 0 := of_decide_eq_true h
    rw [if_pos h] at hf
    refine AW.region ?_
    refine AO.op (O.move rfl rfl) rfl rfl rfl ?_
    refine AO.op (O.move rfl rfl) rfl rfl rfl ?_
    refine AO.op (O.add rfl rfl rfl (by first | exact wI64 (by omega) | rfl)) rfl rfl rfl ?_
    refine AO.op (O.assign rfl rfl) rfl rfl rfl ?_
    refine AO.nil ?_
    refine AQ.thenN ?_
    refine AW.seq ?_
    refine AW.region ?_
    refine AO.op (O.move rfl rfl) rfl rfl rfl ?_
    refine AO.op (O.assign rfl rfl) rfl rfl rfl ?_
    refine AO.nil ?_
    refine AQ.thenN ?_
    refine AW.ret ?_
    refine AQ.ret1 rfl rfl ⟨_, List.nil_sublist _, .nil⟩ (⟨by rw [hf], rfl⟩)
  · skip
    have h : ¬ v.tmod n < 0 := of_decide_eq_false h
    rw [if_neg h] at hf
    refine AW.skip ?_
    refine AQ.thenN ?_
    refine AW.seq ?_
    refine AW.region ?_
    refine AO.op (O.move rfl rfl) rfl rfl rfl ?_
    refine AO.op (O.assign rfl rfl) rfl rfl rfl ?_
    refine AO.nil ?_
    refine AQ.thenN ?_
    refine AW.ret ?_
    refine AQ.ret1 rfl rfl ⟨_, List.nil_sublist _, .nil⟩ (⟨by rw [hf], rfl⟩)

/-- A deck: its numbers, and how many are taken. -/
abbrev deck (b : Nat) (l : List Int) (k : Nat) : HE := .blk b 62 2 [roI l, .val (.int .i64 (k : Int))]
abbrev ptr (b : Nat) : AV := .val (.pointer (some ⟨b, 0, none⟩))
def nxt (l : List Int) (k : Nat) (n : Int) : Int := if k < l.length then l.getD k 0 % n else 0
def adv (l : List Int) (k : Nat) : Nat := if k < l.length then k + 1 else k
theorem nxt_in (l : List Int) (k : Nat) {n : Int} (h : 0 < n) : 0 ≤ nxt l k n ∧ nxt l k n < n := by
  unfold nxt
  split
  · exact ⟨Int.emod_nonneg _ (by omega), Int.emod_lt_of_pos _ h⟩
  · omega
theorem adv_le {l : List Int} {k m : Nat} (h : k ≤ m) (hm : l.length ≤ m) : adv l k ≤ m := by unfold adv; split <;> omega
theorem adv_le' {l : List Int} {k : Nat} (h : k ≤ l.length) : adv l k ≤ l.length := adv_le h (Nat.le_refl _)

theorem new_fn (l : List Int) : Sp Try.prog 13 [roI l] [] (NewBlk (fun b => .val (.pointer (some ⟨b, 0, none⟩))) 62 2 [roI l, .val (.int .i64 0)]) := by
  refine Sp.enter Try.func13 rfl _ Try.ntmps13 rfl (fun w0 R0 => ?_)
  refine AW.seq ?_
  refine AW.region ?_
  refine AO.op (O.assign rfl rfl) rfl rfl rfl ?_
  refine AO.nil ?_
  refine AQ.thenN ?_
  refine AW.seq ?_
  refine AW.region ?_
  refine AO.op (O.move rfl rfl) rfl rfl rfl ?_
  refine AO.op (O.build rfl rfl rfl (by rfl)) rfl rfl rfl ?_
  refine AO.opB (O.box rfl rfl rfl rfl rfl) rfl rfl rfl ?_
  intro B
  refine AO.op (O.assign rfl rfl) rfl rfl rfl ?_
  refine AO.nil ?_
  refine AQ.thenN ?_
  refine AW.ret ?_
  refine AQ.ret1 rfl rfl ⟨_, by repeat (first | exact List.Sublist.slnil | refine List.Sublist.cons_cons _ ?_ | refine List.Sublist.cons _ ?_), List.Perm.refl _⟩ (⟨B, rfl, rfl⟩)

theorem roI_at {l : List Int} {k : Nat} (h : k < l.length) {j : Nat} (hj : j = k) : (intsA .i64 l)[j]? = some (.val (.int .i64 (l.getD k 0))) := by
  subst hj; simp [intsA, h]
set_option maxHeartbeats 1000000 in
theorem next_fn (b : Nat) (l : List Int) (k : Nat) (n : Int) (hl : l.length ≤ maxLen) (hk : k ≤ l.length) (hn1 : 0 < n) (hn2 : n ≤ 4611686018427387904) :
    Sp Try.prog 25 [ptr b, .val (.int .i64 n)] [deck b l k] (IsM (.val (.int .i64 (nxt l k n))) (deck b l (adv l k))) := by
  unfold maxLen at hl
  refine Sp.enter Try.func25 rfl _ Try.ntmps25 rfl (fun w0 R0 => ?_)
  refine AW.seq ?_
  refine AW.region ?_
  refine AO.op (O.assign rfl rfl) rfl rfl rfl ?_
  refine AO.nil ?_
  refine AQ.thenN ?_
  refine AW.seq ?_
  refine AW.seq ?_
  refine AW.regionD 10 (by kernel_rfl) (by kernel_rfl) ?_
  simp only [List.take_succ_cons, List.take_zero, List.drop_succ_cons, List.drop_zero]
  refine FA.op (O.move rfl rfl) rfl rfl rfl rfl ?_
  first | (refine FA.op (O.nilCheck rfl rfl) rfl rfl rfl rfl ?_) | (refine FA.op (O.nilCheckR rfl rfl) rfl rfl rfl rfl ?_)
  first | (refine FA.op (O.fieldAddrR rfl rfl) rfl rfl rfl rfl ?_) | (refine FA.op (O.fieldAddr rfl rfl) rfl rfl rfl rfl ?_)
  first | (refine FA.op (O.loadR rfl rfl (by first | rfl | exact roI_at (by assumption) (by omega))) rfl rfl rfl rfl ?_) | (refine FA.op (O.load rfl rfl (by repeat (first | exact List.Mem.head _ | refine List.Mem.tail _ ?_)) (by first | rfl | exact roI_at (by assumption) (by omega))) rfl rfl rfl rfl ?_)
  refine FA.op (O.move rfl rfl) rfl rfl rfl rfl ?_
  first | (refine FA.op (O.nilCheck rfl rfl) rfl rfl rfl rfl ?_) | (refine FA.op (O.nilCheckR rfl rfl) rfl rfl rfl rfl ?_)
  first | (refine FA.op (O.fieldAddrR rfl rfl) rfl rfl rfl rfl ?_) | (refine FA.op (O.fieldAddr rfl rfl) rfl rfl rfl rfl ?_)
  first | (refine FA.op (O.loadR rfl rfl (by first | rfl | exact roI_at (by assumption) (by omega))) rfl rfl rfl rfl ?_) | (refine FA.op (O.load rfl rfl (by repeat (first | exact List.Mem.head _ | refine List.Mem.tail _ ?_)) (by first | rfl | exact roI_at (by assumption) (by omega))) rfl rfl rfl rfl ?_)
  first | (refine FA.op (O.lenR rfl rfl) rfl rfl rfl rfl ?_) | (refine FA.op (O.lenV rfl rfl) rfl rfl rfl rfl ?_) | (refine FA.op (O.lenRow rfl rfl (by repeat (first | exact List.Mem.head _ | refine List.Mem.tail _ ?_))) rfl rfl rfl rfl ?_) | (refine FA.op (O.lenS rfl rfl) rfl rfl rfl rfl ?_)
  refine FA.op (O.geq rfl rfl rfl (by first | exact bTrue (by omega) | exact bFalse (by omega) | assumption | rfl)) rfl rfl rfl rfl ?_
  refine FA.nil ?_
  simp only [chosen, List.nil_append, List.cons_append, List.append_nil]
  refine AO.nil ?_
  refine AQ.thenN ?_
  refine AW.split rfl (fun h => ?_) (fun h => ?_)
  · skip
    have h : ¬ k < l.length := by have := of_decide_eq_true h; omega
    refine AW.seq ?_
    refine AW.region ?_
    refine AO.op (O.assign rfl rfl) rfl rfl rfl ?_
    refine AO.nil ?_
    refine AQ.thenN ?_
    refine AW.ret ?_
    refine AQ.thenR ?_
    have e1 : nxt l k n = 0 := by simp only [nxt, if_neg h]
    have e2 : adv l k = k := by simp only [adv, if_neg h]
    refine AQ.ret1 rfl rfl ⟨_, by repeat (first | exact List.Sublist.slnil | refine List.Sublist.cons_cons _ ?_ | refine List.Sublist.cons _ ?_), List.Perm.refl _⟩ (⟨congrArg (fun z => AV.val (.int .i64 z)) e1.symm, congrArg (fun z => [deck b l z]) e2.symm⟩)
  · skip
    have h : k < l.length := by have := of_decide_eq_false h; omega
    refine AW.skip ?_
    refine AQ.thenN ?_
    refine AW.seq ?_
    refine AW.region ?_
    refine AO.op (O.move rfl rfl) rfl rfl rfl ?_
    first | (refine AO.op (O.nilCheck rfl rfl) rfl rfl rfl ?_) | (refine AO.op (O.nilCheckR rfl rfl) rfl rfl rfl ?_)
    first | (refine AO.op (O.fieldAddrR rfl rfl) rfl rfl rfl ?_) | (refine AO.op (O.fieldAddr rfl rfl) rfl rfl rfl ?_)
    first | (refine AO.op (O.loadR rfl rfl (by first | rfl | exact roI_at (by assumption) (by omega))) rfl rfl rfl ?_) | (refine AO.op (O.load rfl rfl (by repeat (first | exact List.Mem.head _ | refine List.Mem.tail _ ?_)) (by first | rfl | exact roI_at (by assumption) (by omega))) rfl rfl rfl ?_)
    refine AO.op (O.add rfl rfl rfl (by first | exact wI64 (by omega) | rfl)) rfl rfl rfl ?_
    first | (refine AO.op (O.nilCheck rfl rfl) rfl rfl rfl ?_) | (refine AO.op (O.nilCheckR rfl rfl) rfl rfl rfl ?_)
    first | (refine AO.op (O.fieldAddrR rfl rfl) rfl rfl rfl ?_) | (refine AO.op (O.fieldAddr rfl rfl) rfl rfl rfl ?_)
    first | (refine AO.store (i := 0) rfl rfl rfl rfl rfl rfl (by first | rfl | assumption | (simp [AV.cells, AV.one, *]; done) | (simp [AV.cells, AV.one, roB, roI, roO, show ∀ k z, (Value.int k z).oneCell' = true from fun _ _ => rfl, show ∀ k, (Value.bool k).oneCell' = true from fun _ => rfl, *]; done) | simp [AV.cells, AV.one, Value.oneCell', *]) (by rfl) (by rfl) (by first | (dsimp only [List.set, List.append, List.cons_append, List.nil_append, splice, ofConst, AV.cells, List.map, List.map_cons, List.map_nil, List.take, List.drop, Nat.zero_add, Nat.add_zero, Nat.reduceAdd, Nat.reduceMul, Nat.zero_mul, Value.cells, List.toList_toArray, zerosA, List.replicate, List.flatten, List.append_nil]; rfl) | (dsimp only [List.set, List.append, List.cons_append, List.nil_append, splice, ofConst, AV.cells, List.map, List.map_cons, List.map_nil, List.take, List.drop, Nat.zero_add, Nat.add_zero, Nat.reduceAdd, Nat.reduceMul, Nat.zero_mul, Value.cells, List.toList_toArray, zerosA, List.replicate, List.flatten, List.append_nil]; done) | rfl) (by first | (dsimp only [List.set, List.append, List.cons_append, List.nil_append, splice, ofConst, AV.cells, List.map, List.map_cons, List.map_nil, List.take, List.drop, Nat.zero_add, Nat.add_zero, Nat.reduceAdd, Nat.reduceMul, Nat.zero_mul, Value.cells, List.toList_toArray, zerosA, List.replicate, List.flatten, List.append_nil]; rfl) | (dsimp only [List.set, List.append, List.cons_append, List.nil_append, splice, ofConst, AV.cells, List.map, List.map_cons, List.map_nil, List.take, List.drop, Nat.zero_add, Nat.add_zero, Nat.reduceAdd, Nat.reduceMul, Nat.zero_mul, Value.cells, List.toList_toArray, zerosA, List.replicate, List.flatten, List.append_nil]; done) | rfl) ?_) | (refine AO.store (i := 1) rfl rfl rfl rfl rfl rfl (by first | rfl | assumption | (simp [AV.cells, AV.one, *]; done) | (simp [AV.cells, AV.one, roB, roI, roO, show ∀ k z, (Value.int k z).oneCell' = true from fun _ _ => rfl, show ∀ k, (Value.bool k).oneCell' = true from fun _ => rfl, *]; done) | simp [AV.cells, AV.one, Value.oneCell', *]) (by rfl) (by rfl) (by first | (dsimp only [List.set, List.append, List.cons_append, List.nil_append, splice, ofConst, AV.cells, List.map, List.map_cons, List.map_nil, List.take, List.drop, Nat.zero_add, Nat.add_zero, Nat.reduceAdd, Nat.reduceMul, Nat.zero_mul, Value.cells, List.toList_toArray, zerosA, List.replicate, List.flatten, List.append_nil]; rfl) | (dsimp only [List.set, List.append, List.cons_append, List.nil_append, splice, ofConst, AV.cells, List.map, List.map_cons, List.map_nil, List.take, List.drop, Nat.zero_add, Nat.add_zero, Nat.reduceAdd, Nat.reduceMul, Nat.zero_mul, Value.cells, List.toList_toArray, zerosA, List.replicate, List.flatten, List.append_nil]; done) | rfl) (by first | (dsimp only [List.set, List.append, List.cons_append, List.nil_append, splice, ofConst, AV.cells, List.map, List.map_cons, List.map_nil, List.take, List.drop, Nat.zero_add, Nat.add_zero, Nat.reduceAdd, Nat.reduceMul, Nat.zero_mul, Value.cells, List.toList_toArray, zerosA, List.replicate, List.flatten, List.append_nil]; rfl) | (dsimp only [List.set, List.append, List.cons_append, List.nil_append, splice, ofConst, AV.cells, List.map, List.map_cons, List.map_nil, List.take, List.drop, Nat.zero_add, Nat.add_zero, Nat.reduceAdd, Nat.reduceMul, Nat.zero_mul, Value.cells, List.toList_toArray, zerosA, List.replicate, List.flatten, List.append_nil]; done) | rfl) ?_) | (refine AO.store (i := 2) rfl rfl rfl rfl rfl rfl (by first | rfl | assumption | (simp [AV.cells, AV.one, *]; done) | (simp [AV.cells, AV.one, roB, roI, roO, show ∀ k z, (Value.int k z).oneCell' = true from fun _ _ => rfl, show ∀ k, (Value.bool k).oneCell' = true from fun _ => rfl, *]; done) | simp [AV.cells, AV.one, Value.oneCell', *]) (by rfl) (by rfl) (by first | (dsimp only [List.set, List.append, List.cons_append, List.nil_append, splice, ofConst, AV.cells, List.map, List.map_cons, List.map_nil, List.take, List.drop, Nat.zero_add, Nat.add_zero, Nat.reduceAdd, Nat.reduceMul, Nat.zero_mul, Value.cells, List.toList_toArray, zerosA, List.replicate, List.flatten, List.append_nil]; rfl) | (dsimp only [List.set, List.append, List.cons_append, List.nil_append, splice, ofConst, AV.cells, List.map, List.map_cons, List.map_nil, List.take, List.drop, Nat.zero_add, Nat.add_zero, Nat.reduceAdd, Nat.reduceMul, Nat.zero_mul, Value.cells, List.toList_toArray, zerosA, List.replicate, List.flatten, List.append_nil]; done) | rfl) (by first | (dsimp only [List.set, List.append, List.cons_append, List.nil_append, splice, ofConst, AV.cells, List.map, List.map_cons, List.map_nil, List.take, List.drop, Nat.zero_add, Nat.add_zero, Nat.reduceAdd, Nat.reduceMul, Nat.zero_mul, Value.cells, List.toList_toArray, zerosA, List.replicate, List.flatten, List.append_nil]; rfl) | (dsimp only [List.set, List.append, List.cons_append, List.nil_append, splice, ofConst, AV.cells, List.map, List.map_cons, List.map_nil, List.take, List.drop, Nat.zero_add, Nat.add_zero, Nat.reduceAdd, Nat.reduceMul, Nat.zero_mul, Value.cells, List.toList_toArray, zerosA, List.replicate, List.flatten, List.append_nil]; done) | rfl) ?_) | (refine AO.store (i := 3) rfl rfl rfl rfl rfl rfl (by first | rfl | assumption | (simp [AV.cells, AV.one, *]; done) | (simp [AV.cells, AV.one, roB, roI, roO, show ∀ k z, (Value.int k z).oneCell' = true from fun _ _ => rfl, show ∀ k, (Value.bool k).oneCell' = true from fun _ => rfl, *]; done) | simp [AV.cells, AV.one, Value.oneCell', *]) (by rfl) (by rfl) (by first | (dsimp only [List.set, List.append, List.cons_append, List.nil_append, splice, ofConst, AV.cells, List.map, List.map_cons, List.map_nil, List.take, List.drop, Nat.zero_add, Nat.add_zero, Nat.reduceAdd, Nat.reduceMul, Nat.zero_mul, Value.cells, List.toList_toArray, zerosA, List.replicate, List.flatten, List.append_nil]; rfl) | (dsimp only [List.set, List.append, List.cons_append, List.nil_append, splice, ofConst, AV.cells, List.map, List.map_cons, List.map_nil, List.take, List.drop, Nat.zero_add, Nat.add_zero, Nat.reduceAdd, Nat.reduceMul, Nat.zero_mul, Value.cells, List.toList_toArray, zerosA, List.replicate, List.flatten, List.append_nil]; done) | rfl) (by first | (dsimp only [List.set, List.append, List.cons_append, List.nil_append, splice, ofConst, AV.cells, List.map, List.map_cons, List.map_nil, List.take, List.drop, Nat.zero_add, Nat.add_zero, Nat.reduceAdd, Nat.reduceMul, Nat.zero_mul, Value.cells, List.toList_toArray, zerosA, List.replicate, List.flatten, List.append_nil]; rfl) | (dsimp only [List.set, List.append, List.cons_append, List.nil_append, splice, ofConst, AV.cells, List.map, List.map_cons, List.map_nil, List.take, List.drop, Nat.zero_add, Nat.add_zero, Nat.reduceAdd, Nat.reduceMul, Nat.zero_mul, Value.cells, List.toList_toArray, zerosA, List.replicate, List.flatten, List.append_nil]; done) | rfl) ?_) | (refine AO.store (i := 4) rfl rfl rfl rfl rfl rfl (by first | rfl | assumption | (simp [AV.cells, AV.one, *]; done) | (simp [AV.cells, AV.one, roB, roI, roO, show ∀ k z, (Value.int k z).oneCell' = true from fun _ _ => rfl, show ∀ k, (Value.bool k).oneCell' = true from fun _ => rfl, *]; done) | simp [AV.cells, AV.one, Value.oneCell', *]) (by rfl) (by rfl) (by first | (dsimp only [List.set, List.append, List.cons_append, List.nil_append, splice, ofConst, AV.cells, List.map, List.map_cons, List.map_nil, List.take, List.drop, Nat.zero_add, Nat.add_zero, Nat.reduceAdd, Nat.reduceMul, Nat.zero_mul, Value.cells, List.toList_toArray, zerosA, List.replicate, List.flatten, List.append_nil]; rfl) | (dsimp only [List.set, List.append, List.cons_append, List.nil_append, splice, ofConst, AV.cells, List.map, List.map_cons, List.map_nil, List.take, List.drop, Nat.zero_add, Nat.add_zero, Nat.reduceAdd, Nat.reduceMul, Nat.zero_mul, Value.cells, List.toList_toArray, zerosA, List.replicate, List.flatten, List.append_nil]; done) | rfl) (by first | (dsimp only [List.set, List.append, List.cons_append, List.nil_append, splice, ofConst, AV.cells, List.map, List.map_cons, List.map_nil, List.take, List.drop, Nat.zero_add, Nat.add_zero, Nat.reduceAdd, Nat.reduceMul, Nat.zero_mul, Value.cells, List.toList_toArray, zerosA, List.replicate, List.flatten, List.append_nil]; rfl) | (dsimp only [List.set, List.append, List.cons_append, List.nil_append, splice, ofConst, AV.cells, List.map, List.map_cons, List.map_nil, List.take, List.drop, Nat.zero_add, Nat.add_zero, Nat.reduceAdd, Nat.reduceMul, Nat.zero_mul, Value.cells, List.toList_toArray, zerosA, List.replicate, List.flatten, List.append_nil]; done) | rfl) ?_) | (refine AO.store (i := 5) rfl rfl rfl rfl rfl rfl (by first | rfl | assumption | (simp [AV.cells, AV.one, *]; done) | (simp [AV.cells, AV.one, roB, roI, roO, show ∀ k z, (Value.int k z).oneCell' = true from fun _ _ => rfl, show ∀ k, (Value.bool k).oneCell' = true from fun _ => rfl, *]; done) | simp [AV.cells, AV.one, Value.oneCell', *]) (by rfl) (by rfl) (by first | (dsimp only [List.set, List.append, List.cons_append, List.nil_append, splice, ofConst, AV.cells, List.map, List.map_cons, List.map_nil, List.take, List.drop, Nat.zero_add, Nat.add_zero, Nat.reduceAdd, Nat.reduceMul, Nat.zero_mul, Value.cells, List.toList_toArray, zerosA, List.replicate, List.flatten, List.append_nil]; rfl) | (dsimp only [List.set, List.append, List.cons_append, List.nil_append, splice, ofConst, AV.cells, List.map, List.map_cons, List.map_nil, List.take, List.drop, Nat.zero_add, Nat.add_zero, Nat.reduceAdd, Nat.reduceMul, Nat.zero_mul, Value.cells, List.toList_toArray, zerosA, List.replicate, List.flatten, List.append_nil]; done) | rfl) (by first | (dsimp only [List.set, List.append, List.cons_append, List.nil_append, splice, ofConst, AV.cells, List.map, List.map_cons, List.map_nil, List.take, List.drop, Nat.zero_add, Nat.add_zero, Nat.reduceAdd, Nat.reduceMul, Nat.zero_mul, Value.cells, List.toList_toArray, zerosA, List.replicate, List.flatten, List.append_nil]; rfl) | (dsimp only [List.set, List.append, List.cons_append, List.nil_append, splice, ofConst, AV.cells, List.map, List.map_cons, List.map_nil, List.take, List.drop, Nat.zero_add, Nat.add_zero, Nat.reduceAdd, Nat.reduceMul, Nat.zero_mul, Value.cells, List.toList_toArray, zerosA, List.replicate, List.flatten, List.append_nil]; done) | rfl) ?_) | (refine AO.store (i := 6) rfl rfl rfl rfl rfl rfl (by first | rfl | assumption | (simp [AV.cells, AV.one, *]; done) | (simp [AV.cells, AV.one, roB, roI, roO, show ∀ k z, (Value.int k z).oneCell' = true from fun _ _ => rfl, show ∀ k, (Value.bool k).oneCell' = true from fun _ => rfl, *]; done) | simp [AV.cells, AV.one, Value.oneCell', *]) (by rfl) (by rfl) (by first | (dsimp only [List.set, List.append, List.cons_append, List.nil_append, splice, ofConst, AV.cells, List.map, List.map_cons, List.map_nil, List.take, List.drop, Nat.zero_add, Nat.add_zero, Nat.reduceAdd, Nat.reduceMul, Nat.zero_mul, Value.cells, List.toList_toArray, zerosA, List.replicate, List.flatten, List.append_nil]; rfl) | (dsimp only [List.set, List.append, List.cons_append, List.nil_append, splice, ofConst, AV.cells, List.map, List.map_cons, List.map_nil, List.take, List.drop, Nat.zero_add, Nat.add_zero, Nat.reduceAdd, Nat.reduceMul, Nat.zero_mul, Value.cells, List.toList_toArray, zerosA, List.replicate, List.flatten, List.append_nil]; done) | rfl) (by first | (dsimp only [List.set, List.append, List.cons_append, List.nil_append, splice, ofConst, AV.cells, List.map, List.map_cons, List.map_nil, List.take, List.drop, Nat.zero_add, Nat.add_zero, Nat.reduceAdd, Nat.reduceMul, Nat.zero_mul, Value.cells, List.toList_toArray, zerosA, List.replicate, List.flatten, List.append_nil]; rfl) | (dsimp only [List.set, List.append, List.cons_append, List.nil_append, splice, ofConst, AV.cells, List.map, List.map_cons, List.map_nil, List.take, List.drop, Nat.zero_add, Nat.add_zero, Nat.reduceAdd, Nat.reduceMul, Nat.zero_mul, Value.cells, List.toList_toArray, zerosA, List.replicate, List.flatten, List.append_nil]; done) | rfl) ?_) | (refine AO.store (i := 7) rfl rfl rfl rfl rfl rfl (by first | rfl | assumption | (simp [AV.cells, AV.one, *]; done) | (simp [AV.cells, AV.one, roB, roI, roO, show ∀ k z, (Value.int k z).oneCell' = true from fun _ _ => rfl, show ∀ k, (Value.bool k).oneCell' = true from fun _ => rfl, *]; done) | simp [AV.cells, AV.one, Value.oneCell', *]) (by rfl) (by rfl) (by first | (dsimp only [List.set, List.append, List.cons_append, List.nil_append, splice, ofConst, AV.cells, List.map, List.map_cons, List.map_nil, List.take, List.drop, Nat.zero_add, Nat.add_zero, Nat.reduceAdd, Nat.reduceMul, Nat.zero_mul, Value.cells, List.toList_toArray, zerosA, List.replicate, List.flatten, List.append_nil]; rfl) | (dsimp only [List.set, List.append, List.cons_append, List.nil_append, splice, ofConst, AV.cells, List.map, List.map_cons, List.map_nil, List.take, List.drop, Nat.zero_add, Nat.add_zero, Nat.reduceAdd, Nat.reduceMul, Nat.zero_mul, Value.cells, List.toList_toArray, zerosA, List.replicate, List.flatten, List.append_nil]; done) | rfl) (by first | (dsimp only [List.set, List.append, List.cons_append, List.nil_append, splice, ofConst, AV.cells, List.map, List.map_cons, List.map_nil, List.take, List.drop, Nat.zero_add, Nat.add_zero, Nat.reduceAdd, Nat.reduceMul, Nat.zero_mul, Value.cells, List.toList_toArray, zerosA, List.replicate, List.flatten, List.append_nil]; rfl) | (dsimp only [List.set, List.append, List.cons_append, List.nil_append, splice, ofConst, AV.cells, List.map, List.map_cons, List.map_nil, List.take, List.drop, Nat.zero_add, Nat.add_zero, Nat.reduceAdd, Nat.reduceMul, Nat.zero_mul, Value.cells, List.toList_toArray, zerosA, List.replicate, List.flatten, List.append_nil]; done) | rfl) ?_) | (refine AO.store (i := 8) rfl rfl rfl rfl rfl rfl (by first | rfl | assumption | (simp [AV.cells, AV.one, *]; done) | (simp [AV.cells, AV.one, roB, roI, roO, show ∀ k z, (Value.int k z).oneCell' = true from fun _ _ => rfl, show ∀ k, (Value.bool k).oneCell' = true from fun _ => rfl, *]; done) | simp [AV.cells, AV.one, Value.oneCell', *]) (by rfl) (by rfl) (by first | (dsimp only [List.set, List.append, List.cons_append, List.nil_append, splice, ofConst, AV.cells, List.map, List.map_cons, List.map_nil, List.take, List.drop, Nat.zero_add, Nat.add_zero, Nat.reduceAdd, Nat.reduceMul, Nat.zero_mul, Value.cells, List.toList_toArray, zerosA, List.replicate, List.flatten, List.append_nil]; rfl) | (dsimp only [List.set, List.append, List.cons_append, List.nil_append, splice, ofConst, AV.cells, List.map, List.map_cons, List.map_nil, List.take, List.drop, Nat.zero_add, Nat.add_zero, Nat.reduceAdd, Nat.reduceMul, Nat.zero_mul, Value.cells, List.toList_toArray, zerosA, List.replicate, List.flatten, List.append_nil]; done) | rfl) (by first | (dsimp only [List.set, List.append, List.cons_append, List.nil_append, splice, ofConst, AV.cells, List.map, List.map_cons, List.map_nil, List.take, List.drop, Nat.zero_add, Nat.add_zero, Nat.reduceAdd, Nat.reduceMul, Nat.zero_mul, Value.cells, List.toList_toArray, zerosA, List.replicate, List.flatten, List.append_nil]; rfl) | (dsimp only [List.set, List.append, List.cons_append, List.nil_append, splice, ofConst, AV.cells, List.map, List.map_cons, List.map_nil, List.take, List.drop, Nat.zero_add, Nat.add_zero, Nat.reduceAdd, Nat.reduceMul, Nat.zero_mul, Value.cells, List.toList_toArray, zerosA, List.replicate, List.flatten, List.append_nil]; done) | rfl) ?_) | (refine AO.store (i := 9) rfl rfl rfl rfl rfl rfl (by first | rfl | assumption | (simp [AV.cells, AV.one, *]; done) | (simp [AV.cells, AV.one, roB, roI, roO, show ∀ k z, (Value.int k z).oneCell' = true from fun _ _ => rfl, show ∀ k, (Value.bool k).oneCell' = true from fun _ => rfl, *]; done) | simp [AV.cells, AV.one, Value.oneCell', *]) (by rfl) (by rfl) (by first | (dsimp only [List.set, List.append, List.cons_append, List.nil_append, splice, ofConst, AV.cells, List.map, List.map_cons, List.map_nil, List.take, List.drop, Nat.zero_add, Nat.add_zero, Nat.reduceAdd, Nat.reduceMul, Nat.zero_mul, Value.cells, List.toList_toArray, zerosA, List.replicate, List.flatten, List.append_nil]; rfl) | (dsimp only [List.set, List.append, List.cons_append, List.nil_append, splice, ofConst, AV.cells, List.map, List.map_cons, List.map_nil, List.take, List.drop, Nat.zero_add, Nat.add_zero, Nat.reduceAdd, Nat.reduceMul, Nat.zero_mul, Value.cells, List.toList_toArray, zerosA, List.replicate, List.flatten, List.append_nil]; done) | rfl) (by first | (dsimp only [List.set, List.append, List.cons_append, List.nil_append, splice, ofConst, AV.cells, List.map, List.map_cons, List.map_nil, List.take, List.drop, Nat.zero_add, Nat.add_zero, Nat.reduceAdd, Nat.reduceMul, Nat.zero_mul, Value.cells, List.toList_toArray, zerosA, List.replicate, List.flatten, List.append_nil]; rfl) | (dsimp only [List.set, List.append, List.cons_append, List.nil_append, splice, ofConst, AV.cells, List.map, List.map_cons, List.map_nil, List.take, List.drop, Nat.zero_add, Nat.add_zero, Nat.reduceAdd, Nat.reduceMul, Nat.zero_mul, Value.cells, List.toList_toArray, zerosA, List.replicate, List.flatten, List.append_nil]; done) | rfl) ?_)
    refine AO.nil ?_
    refine AQ.thenN ?_
    refine AW.seq ?_
    refine AW.regionD 14 (by kernel_rfl) (by kernel_rfl) ?_
    simp only [List.take_succ_cons, List.take_zero, List.drop_succ_cons, List.drop_zero]
    refine FA.op (O.move rfl rfl) rfl rfl rfl rfl ?_
    first | (refine FA.op (O.nilCheck rfl rfl) rfl rfl rfl rfl ?_) | (refine FA.op (O.nilCheckR rfl rfl) rfl rfl rfl rfl ?_)
    first | (refine FA.op (O.fieldAddrR rfl rfl) rfl rfl rfl rfl ?_) | (refine FA.op (O.fieldAddr rfl rfl) rfl rfl rfl rfl ?_)
    first | (refine FA.op (O.loadR rfl rfl (by first | rfl | exact roI_at (by assumption) (by omega))) rfl rfl rfl rfl ?_) | (refine FA.op (O.load rfl rfl (by repeat (first | exact List.Mem.head _ | refine List.Mem.tail _ ?_)) (by first | rfl | exact roI_at (by assumption) (by omega))) rfl rfl rfl rfl ?_)
    refine FA.op (O.move rfl rfl) rfl rfl rfl rfl ?_
    first | (refine FA.op (O.nilCheck rfl rfl) rfl rfl rfl rfl ?_) | (refine FA.op (O.nilCheckR rfl rfl) rfl rfl rfl rfl ?_)
    first | (refine FA.op (O.fieldAddrR rfl rfl) rfl rfl rfl rfl ?_) | (refine FA.op (O.fieldAddr rfl rfl) rfl rfl rfl rfl ?_)
    first | (refine FA.op (O.loadR rfl rfl (by first | rfl | exact roI_at (by assumption) (by omega))) rfl rfl rfl rfl ?_) | (refine FA.op (O.load rfl rfl (by repeat (first | exact List.Mem.head _ | refine List.Mem.tail _ ?_)) (by first | rfl | exact roI_at (by assumption) (by omega))) rfl rfl rfl rfl ?_)
    refine FA.op (O.sub rfl rfl rfl (by first | exact wI64 (by omega) | rfl)) rfl rfl rfl rfl ?_
    first | (refine FA.op (O.idxR rfl rfl rfl ⟨(by first | omega | (simp only [List.length_take, List.length_drop, List.length_append, List.length_cons, List.length_nil, List.length_set, Nat.zero_add]; omega) | (simp only [cond_true, cond_false, Bool.not_eq_true', Bool.not_eq_false', Bool.and_eq_true, Bool.or_eq_true, Bool.or_eq_false_iff, Bool.and_eq_false_imp, decide_eq_true_eq, decide_eq_false_iff_not, beq_iff_eq, bne_iff_ne, bne_eq_false_iff_eq, ne_eq] at hp; omega)), (by first | omega | (simp only [List.length_take, List.length_drop, List.length_append, List.length_cons, List.length_nil, List.length_set, Nat.zero_add]; omega) | (simp only [cond_true, cond_false, Bool.not_eq_true', Bool.not_eq_false', Bool.and_eq_true, Bool.or_eq_true, Bool.or_eq_false_iff, Bool.and_eq_false_imp, decide_eq_true_eq, decide_eq_false_iff_not, beq_iff_eq, bne_iff_ne, bne_eq_false_iff_eq, ne_eq] at hp; omega))⟩) rfl rfl rfl rfl ?_) | (refine FA.op (O.idxV rfl rfl rfl ⟨(by first | omega | (simp only [List.length_take, List.length_drop, List.length_append, List.length_cons, List.length_nil, List.length_set, Nat.zero_add]; omega) | (simp only [cond_true, cond_false, Bool.not_eq_true', Bool.not_eq_false', Bool.and_eq_true, Bool.or_eq_true, Bool.or_eq_false_iff, Bool.and_eq_false_imp, decide_eq_true_eq, decide_eq_false_iff_not, beq_iff_eq, bne_iff_ne, bne_eq_false_iff_eq, ne_eq] at hp; omega)), (by first | omega | (simp only [List.length_take, List.length_drop, List.length_append, List.length_cons, List.length_nil, List.length_set, Nat.zero_add]; omega) | (simp only [cond_true, cond_false, Bool.not_eq_true', Bool.not_eq_false', Bool.and_eq_true, Bool.or_eq_true, Bool.or_eq_false_iff, Bool.and_eq_false_imp, decide_eq_true_eq, decide_eq_false_iff_not, beq_iff_eq, bne_iff_ne, bne_eq_false_iff_eq, ne_eq] at hp; omega))⟩) rfl rfl rfl rfl ?_)
    first | (refine FA.op (O.loadR rfl rfl (by first | rfl | exact roI_at (by assumption) (by omega))) rfl rfl rfl rfl ?_) | (refine FA.op (O.load rfl rfl (by repeat (first | exact List.Mem.head _ | refine List.Mem.tail _ ?_)) (by first | rfl | exact roI_at (by assumption) (by omega))) rfl rfl rfl rfl ?_)
    refine FA.op (O.move rfl rfl) rfl rfl rfl rfl ?_
    first | (refine FA.op (O.call rfl Try.func17 rfl rfl rfl (mod_fn _ _ hn1 hn2)) rfl rfl rfl rfl ?_) | (refine FA.op (O.callC rfl Try.func17 rfl rfl rfl (mod_fn _ _ hn1 hn2) (by (repeat (first | exact CoeL.nil | refine CoeL.cons Coe.rfl ?_ | refine CoeL.cons Coe.nil ?_ | refine CoeL.cons Coe.unfull ?_ | refine CoeL.cons (Coe.agg ?_) ?_ | refine CoeL.cons (Coe.tup ?_) ?_ | refine CoeL.cons (Coe.ro ?_) ?_)); first | done | fail)) rfl rfl rfl rfl ?_) | (refine FA.op (O.callL rfl Try.func17 rfl rfl rfl (by repeat (first | exact List.Mem.head _ | refine List.Mem.tail _ ?_)) (mod_fn _ _ hn1 hn2) (by (repeat (first | exact LendL.nil | refine LendL.same ?_ | refine LendL.lend ?_)); first | done | fail)) rfl rfl rfl rfl ?_)
    refine FA.op (O.assign rfl rfl) rfl rfl rfl rfl ?_
    refine FA.nil ?_
    simp only [chosen, List.nil_append, List.cons_append, List.append_nil]
    refine AO.nil ?_
    refine AQ.thenN ?_
    refine AW.ret ?_
    have e1 : nxt l k n = l.getD k 0 % n := by simp only [nxt, if_pos h]
    have e2 : adv l k = k + 1 := by simp only [adv, if_pos h]
    refine AQ.ret1 rfl rfl ⟨_, by repeat (first | exact List.Sublist.slnil | refine List.Sublist.cons_cons _ ?_ | refine List.Sublist.cons _ ?_), List.Perm.refl _⟩ (⟨congrArg (fun z => AV.val (.int .i64 z)) e1.symm, congrArg (fun z => [deck b l z]) e2.symm⟩)
end Go.Proofs.Ytlcoanbdaephiaa.Dk

namespace Go.Proofs.Ytlcoanbdaephiaa.Ob
open Go.RowKit L A
set_option linter.unusedVariables false
set_option linter.unusedSimpArgs false
attribute [local irreducible] AW AQ AO

theorem few_fn (l : List Int) : Sp Try.prog 32 [roI l] [] (Is (.val (.bool (decide ((l.length : Int) ≤ 300))))) := by
  refine Sp.enter Try.func32 rfl _ Try.ntmps32 rfl (fun w0 R0 => ?_)
  refine AW.seq ?_
  refine AW.region ?_
  refine AO.op (O.assign rfl rfl) rfl rfl rfl ?_
  refine AO.nil ?_
  refine AQ.thenN ?_
  refine AW.seq ?_
  refine AW.region ?_
  refine AO.op (O.move rfl rfl) rfl rfl rfl ?_
  refine AO.op (O.lenR rfl rfl) rfl rfl rfl ?_
  refine AO.op (O.leq rfl rfl rfl (by rfl)) rfl rfl rfl ?_
  refine AO.op (O.assign rfl rfl) rfl rfl rfl ?_
  refine AO.nil ?_
  refine AQ.thenN ?_
  refine AW.ret ?_
  refine AQ.ret1 rfl rfl ⟨_, List.nil_sublist _, .nil⟩ (⟨rfl, rfl⟩)
def lightW (w : Watch) : Bool := !(decide (50 < (w.tok.length : Int)) || !decide ((w.key.length : Int) ≤ 600))
def lightB (ws : List Watch) : Bool := ws.all lightW && decide (ws.length ≤ 30)
def fullW (m : Nat) : List Watch := (List.range m).map fun i : Nat => ⟨(i : Int), [UInt8.ofNat i], [1], 0, 0⟩
end Go.Proofs.Ytlcoanbdaephiaa.Ob

namespace Go.Proofs.Ytlcoanbdaephiaa.Ob
open Go.RowKit L A
set_option linter.unusedVariables false
set_option linter.unusedSimpArgs false
attribute [local irreducible] AW AQ AO

theorem getW0 {ws : List Watch} {k : Nat} (h : k < ws.length) : ((watchesA ws).drop (0 + Int.toNat (k : Int) * 5)).take 5 = [.val (.int .i64 (wat ws k).peer), roB (wat ws k).tok, roB (wat ws k).key, .val (.int .i64 (wat ws k).seq), .val (.int .i64 (wat ws k).since)] := by
  rw [Nat.zero_add]; exact getW h
abbrev rowW (V : Value) (ws : List Watch) : HE := .row V 58 5 ws.length (watchesA ws)
/-- A new registry beside the old one. -/
def RegO (V : Value) (ws : List Watch) (r : List Watch × Int) : AV → List HE → Prop := fun q H' => ∃ V' : Value, V'.oneCell' = true ∧ q = .tup [.val V', .val (.int .i64 r.2)] ∧ H' = [rowW V' r.1, rowW V ws]

set_option maxHeartbeats 2000000 in
theorem rregister_own (V : Value) (hV1 : V.oneCell' = true) (ws : List Watch) (hsh : Short ws) (p : Int) (tk ky : List UInt8) (now : Int) (h1 : tk.length ≤ 4294967296) (h2 : ky.length ≤ 4294967296) :
    Sp Try.prog 19 [.val V, .val (.int .i64 p), roB tk, roB ky, .val (.int .i64 now)] [rowW V ws] (RegO V ws (regW ws p tk ky now)) := by
  have hlen := hsh.1
  obtain ⟨K, hKd⟩ : ∃ K : Watch → Bool, K = fun w => !meetsB w.peer w.tok w.key p tk ky := ⟨_, rfl⟩
  refine Sp.enter Try.func19 rfl _ Try.ntmps19 rfl (fun w0 R0 => ?_)
  refine AW.seq ?_
  refine AW.region ?_
  refine AO.op (O.assign rfl rfl) rfl rfl rfl ?_
  refine AO.op (O.assign rfl rfl) rfl rfl rfl ?_
  refine AO.nil ?_
  refine AQ.thenN ?_
  refine AW.seq ?_
  refine AW.region ?_
  refine AO.op (O.move rfl rfl) rfl rfl rfl ?_
  refine AO.op (O.move rfl rfl) rfl rfl rfl ?_
  refine AO.op (O.move rfl rfl) rfl rfl rfl ?_
  refine AO.op (O.move rfl rfl) rfl rfl rfl ?_
  refine AO.op (O.build rfl rfl rfl (by rfl)) rfl rfl rfl ?_
  refine AO.opB (O.alloc rfl (by (dsimp only [List.set, List.append, List.cons_append, List.nil_append, splice, ofConst, AV.cells, List.map, List.map_cons, List.map_nil, List.take, List.drop, Nat.zero_add, Nat.add_zero, Nat.reduceAdd, Nat.reduceMul, Nat.zero_mul, Value.cells, List.toList_toArray, zerosA, List.replicate, List.flatten, List.append_nil]; done)) (by rfl)) rfl rfl rfl ?_
  intro B
  (refine AO.store (i := 0) rfl rfl rfl rfl rfl rfl (by rfl) (by rfl) (by rfl) (by (dsimp only [List.set, List.append, List.cons_append, List.nil_append, splice, ofConst, AV.cells, List.map, List.map_cons, List.map_nil, List.take, List.drop, Nat.zero_add, Nat.add_zero, Nat.reduceAdd, Nat.reduceMul, Nat.zero_mul, Value.cells, List.toList_toArray, zerosA, List.replicate, List.flatten, List.append_nil]; done)) (by (dsimp only [List.set, List.append, List.cons_append, List.nil_append, splice, ofConst, AV.cells, List.map, List.map_cons, List.map_nil, List.take, List.drop, Nat.zero_add, Nat.add_zero, Nat.reduceAdd, Nat.reduceMul, Nat.zero_mul, Value.cells, List.toList_toArray, zerosA, List.replicate, List.flatten, List.append_nil]; done)) ?_)
  refine AO.nil ?_
  refine AQ.thenN ?_
  refine AW.seq ?_
  refine AW.seq ?_
  refine AW.region ?_
  refine AO.op (O.move rfl rfl) rfl rfl rfl ?_
  (refine AO.op (O.callL rfl Try.func16 rfl rfl rfl (by repeat (first | exact List.Mem.head _ | refine List.Mem.tail _ ?_)) (rvalid_fn _) (by (repeat (first | exact LendL.nil | refine LendL.lend ?_)); done)) rfl rfl rfl ?_)
  refine AO.op (O.not rfl rfl (by rfl)) rfl rfl rfl ?_
  refine AO.op (O.move rfl rfl) rfl rfl rfl ?_
  (refine AO.opG rfl rfl rfl (fun hp => O.loadK rfl rfl (by repeat (exact List.Mem.head _)) (by (dsimp only [List.set, List.append, List.cons_append, List.nil_append, splice, ofConst, AV.cells, List.map, List.map_cons, List.map_nil, List.take, List.drop, Nat.zero_add, Nat.add_zero, Nat.reduceAdd, Nat.reduceMul, Nat.zero_mul, Value.cells, List.toList_toArray, zerosA, List.replicate, List.flatten, List.append_nil]; done)) (by rfl)) ?_)
  refine AO.opG rfl rfl rfl (fun hp => OpW.force 25 rfl (by exact hp) (O.call rfl Try.func36 rfl rfl rfl (proper_fn _ _ _ _ _))) ?_
  refine AO.opG rfl rfl rfl (fun hp => OpW.force 26 rfl (by exact hp) (O.not rfl rfl (by rfl))) ?_
  refine AO.op (O.pickOr rfl rfl rfl rfl (fun h => by exact congrArg (fun b => !b) h)) rfl rfl rfl ?_
  refine AO.nil ?_
  refine AQ.thenN ?_
  refine AW.split rfl (fun h => ?_) (fun h => ?_)
  · skip
    have h : (!validW ws || !soundB p tk ky 0 now) = true := h
    refine AW.seq ?_
    refine AW.region ?_
    refine AO.op (O.assign rfl rfl) rfl rfl rfl ?_
    refine AO.op (O.assign rfl rfl) rfl rfl rfl ?_
    refine AO.nil ?_
    refine AQ.thenN ?_
    refine AW.ret ?_
    refine AQ.thenR ?_
    refine AQ.g ?_
    refine G.nilRow 58 5 ?_
    refine AQ.u ?_
    have e : regW ws p tk ky now = ([], 1) := by simp only [regW, if_pos h]
    rw [e]
    refine AQ.ret2 rfl rfl rfl ⟨_, by repeat (first | exact List.Sublist.slnil | refine List.Sublist.cons_cons _ ?_ | refine List.Sublist.cons _ ?_), List.Perm.refl _⟩ (⟨.slice none 0 0, rfl, rfl, rfl⟩)
  · skip
    have h : ¬ (!validW ws || !soundB p tk ky 0 now) = true := by rw [h]; simp
    refine AW.skip ?_
    refine AQ.thenN ?_
    refine AW.seq ?_
    refine AW.region ?_
    refine AO.op (O.assign rfl rfl) rfl rfl rfl ?_
    refine AO.nil ?_
    refine AQ.thenN ?_
    refine AW.seq ?_
    refine AW.seq ?_
    refine AW.region ?_
    refine AO.op (O.move rfl rfl) rfl rfl rfl ?_
    refine AO.op (O.lenRow rfl rfl (by repeat (first | exact List.Mem.head _ | refine List.Mem.tail _ ?_))) rfl rfl rfl ?_
    refine AO.op (O.move rfl rfl) rfl rfl rfl ?_
    refine AO.nil ?_
    refine AQ.thenN ?_
    refine AW.block ?_
    refine AW.g ?_
    refine G.nilRow 58 5 ?_
    refine AW.u ?_
    refine AW.loop (fun n E H => ∃ (k : Nat) (V0 : Value), k ≤ ws.length ∧ V0.oneCell' = true ∧ n = ws.length - k ∧ E = [(13, .val V0), (29, .val V), (30, .val (.int .i64 (ws.length : Int))), (31, .val (.int .i64 (k : Int))), (12, .val (.pointer (some ⟨B, 0, none⟩)))] ∧ H = [rowW V0 (keptTo K ws k), .blk B 58 5 (cellsW p tk ky 0 now), rowW V ws]) (ws.length) (⟨0, .slice none 0 0, by omega, rfl, rfl, rfl, rfl⟩) (by repeat (first | exact envNil | refine envCons rfl ?_)) ⟨_, by repeat (first | exact List.Sublist.slnil | refine List.Sublist.cons_cons _ ?_), List.Perm.refl _⟩ ?_
    rintro n E H ⟨k, V0, hk1, hV0, rfl, rfl, rfl⟩
    refine AW.seq ?_
    refine AW.region ?_
    refine AO.op (O.lss rfl rfl rfl (by rfl)) rfl rfl rfl ?_
    refine AO.nil ?_
    refine AQ.thenN ?_
    refine AW.seq ?_
    refine AW.split rfl (fun hlt => ?_) (fun hlt => ?_)
    · skip
      have hlt : k < ws.length := by simpa using hlt
      have hle := keptTo_le K ws k
      refine AW.g ?_
      refine G.openRow 2 rfl (by omega) (fun b cap hc1 hc2 hxs hVe => ?_)
      refine AW.u ?_
      subst hVe
      refine AW.skip ?_
      refine AQ.thenN ?_
      refine AW.seq ?_
      refine AW.block ?_
      refine AW.seq ?_
      refine AW.region ?_
      refine AO.op (O.idxV rfl rfl rfl ⟨(by omega), (by omega)⟩) rfl rfl rfl ?_
      refine AO.op (O.loadK rfl rfl (by repeat (first | exact List.Mem.head _ | refine List.Mem.tail _ ?_)) (by exact getW0 (by assumption)) (by rfl)) rfl rfl rfl ?_
      refine AO.opB (O.alloc rfl (by (dsimp only [List.set, List.append, List.cons_append, List.nil_append, splice, ofConst, AV.cells, List.map, List.map_cons, List.map_nil, List.take, List.drop, Nat.zero_add, Nat.add_zero, Nat.reduceAdd, Nat.reduceMul, Nat.zero_mul, Value.cells, List.toList_toArray, zerosA, List.replicate, List.flatten, List.append_nil]; done)) (by rfl)) rfl rfl rfl ?_
      intro B
      (refine AO.store (i := 0) rfl rfl rfl rfl rfl rfl (by rfl) (by rfl) (by rfl) (by (dsimp only [List.set, List.append, List.cons_append, List.nil_append, splice, ofConst, AV.cells, List.map, List.map_cons, List.map_nil, List.take, List.drop, Nat.zero_add, Nat.add_zero, Nat.reduceAdd, Nat.reduceMul, Nat.zero_mul, Value.cells, List.toList_toArray, zerosA, List.replicate, List.flatten, List.append_nil]; done)) (by (dsimp only [List.set, List.append, List.cons_append, List.nil_append, splice, ofConst, AV.cells, List.map, List.map_cons, List.map_nil, List.take, List.drop, Nat.zero_add, Nat.add_zero, Nat.reduceAdd, Nat.reduceMul, Nat.zero_mul, Value.cells, List.toList_toArray, zerosA, List.replicate, List.flatten, List.append_nil]; done)) ?_)
      refine AO.nil ?_
      refine AQ.thenN ?_
      refine AW.seq ?_
      refine AW.region ?_
      (refine AO.op (O.loadK rfl rfl (by repeat (exact List.Mem.head _)) (by (dsimp only [List.set, List.append, List.cons_append, List.nil_append, splice, ofConst, AV.cells, List.map, List.map_cons, List.map_nil, List.take, List.drop, Nat.zero_add, Nat.add_zero, Nat.reduceAdd, Nat.reduceMul, Nat.zero_mul, Value.cells, List.toList_toArray, zerosA, List.replicate, List.flatten, List.append_nil]; done)) (by rfl)) rfl rfl rfl ?_)
      (refine AO.op (O.loadK rfl rfl (by repeat (first | exact List.Mem.head _ | refine List.Mem.tail _ ?_)) (by (dsimp only [List.set, List.append, List.cons_append, List.nil_append, splice, ofConst, AV.cells, List.map, List.map_cons, List.map_nil, List.take, List.drop, Nat.zero_add, Nat.add_zero, Nat.reduceAdd, Nat.reduceMul, Nat.zero_mul, Value.cells, List.toList_toArray, zerosA, List.replicate, List.flatten, List.append_nil]; done)) (by rfl)) rfl rfl rfl ?_)
      refine AO.op (O.call rfl Try.func37 rfl rfl rfl (clash_fn _ _ _ _ _ _ _ _ _ _)) rfl rfl rfl ?_
      refine AO.op (O.not rfl rfl (by rfl)) rfl rfl rfl ?_
      refine AO.nil ?_
      refine AQ.thenN ?_
      refine AW.g ?_
      refine G.closeRow (b := b) 3 rfl hxs rfl hc1 hc2 ?_
      refine AW.u ?_
      refine AW.split rfl (fun hK => ?_) (fun hK => ?_)
      · skip
        have hK : K (wat ws k) = true := by rw [hKd]; exact hK
        refine AW.region ?_
        refine AO.op (O.move rfl rfl) rfl rfl rfl ?_
        (refine AO.op (O.loadK rfl rfl (by repeat (exact List.Mem.head _)) (by (dsimp only [List.set, List.append, List.cons_append, List.nil_append, splice, ofConst, AV.cells, List.map, List.map_cons, List.map_nil, List.take, List.drop, Nat.zero_add, Nat.add_zero, Nat.reduceAdd, Nat.reduceMul, Nat.zero_mul, Value.cells, List.toList_toArray, zerosA, List.replicate, List.flatten, List.append_nil]; done)) (by rfl)) rfl rfl rfl ?_)
        refine AO.op (O.call rfl Try.func41 rfl rfl rfl (copy_fn _ _ _ _ _ (hsh.at hlt).1 (hsh.at hlt).2)) rfl rfl rfl ?_
        refine AO.opB (O.buildSlice rfl rfl rfl (by rfl) (by rfl) (by rfl) (by rfl)) rfl rfl rfl ?_
        intro B
        refine AO.g ?_
        (refine G.freezeSl 0 42 rfl rfl ⟨Nat.le_refl _, by unfold maxLen; omega⟩ ?_)
        refine G.unfull 42 rfl ?_
        refine AO.u ?_
        dsimp only [List.eraseIdx]
        (refine AO.append' (i := 1) rfl rfl rfl rfl (by rfl) (by rfl) rfl rfl rfl (by exact SrcA.ro TyD.ax (by rfl) (Nat.le_of_ble_eq_true rfl)) (by rfl) (by (unfold maxLen; omega)) (by omega) (by (dsimp only [List.set, List.append, List.cons_append, List.nil_append, splice, ofConst, AV.cells, List.map, List.map_cons, List.map_nil, List.take, List.drop, Nat.zero_add, Nat.add_zero, Nat.reduceAdd, Nat.reduceMul, Nat.zero_mul, Value.cells, List.toList_toArray, zerosA, List.replicate, List.flatten, List.append_nil]; done)) (fun _ => by (dsimp only [List.set]; done)) ?_)
        intro V hV
        refine AO.op (O.assign rfl rfl) rfl rfl rfl ?_
        refine AO.nil ?_
        refine AQ.blockN ?_
        refine AQ.thenN ?_
        refine AW.region ?_
        refine AO.op (O.add rfl rfl rfl (by exact wI64 (by omega))) rfl rfl rfl ?_
        refine AO.op (O.move rfl rfl) rfl rfl rfl ?_
        refine AO.nil ?_
        refine AQ.loopN _ _ _ (by omega) (⟨k + 1, V, by omega, by assumption, rfl, rfl, by unfold rowW; rw [keptTo_succ hlt, if_pos hK, watchesA_app, List.length_append]⟩) (by repeat (first | exact envNil | refine envCons rfl ?_)) ⟨_, by repeat (first | exact List.Sublist.slnil | refine List.Sublist.cons_cons _ ?_ | refine List.Sublist.cons _ ?_), List.Perm.refl _⟩
      · skip
        have hK : K (wat ws k) = false := by rw [hKd]; exact hK
        refine AW.skip ?_
        refine AQ.blockN ?_
        refine AQ.thenN ?_
        refine AW.region ?_
        refine AO.op (O.add rfl rfl rfl (by exact wI64 (by omega))) rfl rfl rfl ?_
        refine AO.op (O.move rfl rfl) rfl rfl rfl ?_
        refine AO.nil ?_
        refine AQ.loopN _ _ _ (by omega) (⟨k + 1, V0, by omega, hV0, rfl, rfl, by unfold rowW; rw [keptTo_succ hlt, if_neg (by simp [hK]), List.append_nil]⟩) (by repeat (first | exact envNil | refine envCons rfl ?_)) ⟨_, by repeat (first | exact List.Sublist.slnil | refine List.Sublist.cons_cons _ ?_ | refine List.Sublist.cons _ ?_), List.Perm.refl _⟩
    · skip
      have hlt : k = ws.length := by simp at hlt; omega
      subst hlt
      have hle : (ws.filter K).length ≤ ws.length := List.length_filter_le K ws
      rw [keptTo_all]
      refine AW.exit ?_
      refine AQ.thenX ?_
      refine AQ.loopX ?_
      refine AQ.blockX rfl ?_
      refine AQ.thenN ?_
      refine AW.seq ?_
      refine AW.seq ?_
      refine AW.region ?_
      refine AO.op (O.move rfl rfl) rfl rfl rfl ?_
      refine AO.op (O.lenRow rfl rfl (by repeat (exact List.Mem.head _))) rfl rfl rfl ?_
      refine AO.op (O.geq rfl rfl rfl (by rfl)) rfl rfl rfl ?_
      refine AO.nil ?_
      refine AQ.thenN ?_
      refine AW.split rfl (fun hf => ?_) (fun hf => ?_)
      · skip
        have hf : 16 ≤ (ws.filter K).length := by have := of_decide_eq_true hf; omega
        have e : regW ws p tk ky now = ([], 16) := by subst hKd; simp only [regW, if_neg h, if_pos hf]
        rw [e]
        refine AW.seq ?_
        refine AW.region ?_
        refine AO.op (O.assign rfl rfl) rfl rfl rfl ?_
        refine AO.op (O.assign rfl rfl) rfl rfl rfl ?_
        refine AO.nil ?_
        refine AQ.thenN ?_
        refine AW.ret ?_
        refine AQ.thenR ?_
        refine AQ.g ?_
        refine G.nilRow 58 5 ?_
        refine AQ.u ?_
        refine AQ.ret2 rfl rfl rfl ⟨_, by repeat (first | exact List.Sublist.slnil | refine List.Sublist.cons_cons _ ?_ | refine List.Sublist.cons _ ?_), List.Perm.refl _⟩ (⟨.slice none 0 0, rfl, rfl, rfl⟩)
      · skip
        have hf : ¬ 16 ≤ (ws.filter K).length := by have := of_decide_eq_false hf; omega
        have e : regW ws p tk ky now = (ws.filter K ++ [⟨p, tk, ky, 0, now⟩], 0) := by subst hKd; simp only [regW, if_neg h, if_neg hf]
        rw [e]
        refine AW.skip ?_
        refine AQ.thenN ?_
        refine AW.seq ?_
        refine AW.region ?_
        refine AO.op (O.move rfl rfl) rfl rfl rfl ?_
        (refine AO.op (O.loadK rfl rfl (by repeat (first | exact List.Mem.head _ | refine List.Mem.tail _ ?_)) (by (dsimp only [List.set, List.append, List.cons_append, List.nil_append, splice, ofConst, AV.cells, List.map, List.map_cons, List.map_nil, List.take, List.drop, Nat.zero_add, Nat.add_zero, Nat.reduceAdd, Nat.reduceMul, Nat.zero_mul, Value.cells, List.toList_toArray, zerosA, List.replicate, List.flatten, List.append_nil]; done)) (by rfl)) rfl rfl rfl ?_)
        refine AO.op (O.call rfl Try.func41 rfl rfl rfl (copy_fn _ _ _ _ _ h1 h2)) rfl rfl rfl ?_
        refine AO.opB (O.buildSlice rfl rfl rfl (by rfl) (by rfl) (by rfl) (by rfl)) rfl rfl rfl ?_
        intro B
        refine AO.g ?_
        (refine G.freezeSl 0 51 rfl rfl ⟨Nat.le_refl _, by unfold maxLen; omega⟩ ?_)
        refine G.unfull 51 rfl ?_
        refine AO.u ?_
        dsimp only [List.eraseIdx]
        (refine AO.append' (i := 0) rfl rfl rfl rfl (by rfl) (by rfl) rfl rfl rfl (by exact SrcA.ro TyD.ax (by rfl) (Nat.le_of_ble_eq_true rfl)) (by rfl) (by (unfold maxLen; omega)) (by omega) (by (dsimp only [List.set, List.append, List.cons_append, List.nil_append, splice, ofConst, AV.cells, List.map, List.map_cons, List.map_nil, List.take, List.drop, Nat.zero_add, Nat.add_zero, Nat.reduceAdd, Nat.reduceMul, Nat.zero_mul, Value.cells, List.toList_toArray, zerosA, List.replicate, List.flatten, List.append_nil]; done)) (fun _ => by (dsimp only [List.set]; done)) ?_)
        intro V hV
        refine AO.op (O.assign rfl rfl) rfl rfl rfl ?_
        refine AO.op (O.assign rfl rfl) rfl rfl rfl ?_
        refine AO.nil ?_
        refine AQ.thenN ?_
        refine AW.ret ?_
        unfold RegO rowW
        rw [watchesA_app, List.length_append]
        refine AQ.ret2 rfl rfl rfl ⟨_, by repeat (first | exact List.Sublist.slnil | refine List.Sublist.cons_cons _ ?_ | refine List.Sublist.cons _ ?_), List.Perm.refl _⟩ (⟨_, by assumption, rfl, rfl⟩)
end Go.Proofs.Ytlcoanbdaephiaa.Ob

namespace Go.Proofs.Ytlcoanbdaephiaa.Ob
open Go.RowKit L A Dk
set_option linter.unusedVariables false
set_option linter.unusedSimpArgs false
attribute [local irreducible] AW AQ AO

/-- The registrations, k to go. -/
def bLoop (l : List Int) : Nat → List Watch → Nat → List Watch × Nat
  | 0, L, a => (L, a)
  | k + 1, L, a => bLoop l k (if (regW L (nxt l a 5) [u8 (nxt l (adv l a) 5)] [u8 (nxt l (adv l (adv l a)) 4)] ((k : Int) + 1)).2 = 0 then (regW L (nxt l a 5) [u8 (nxt l (adv l a) 5)] [u8 (nxt l (adv l (adv l a)) 4)] ((k : Int) + 1)).1 else L) (adv l (adv l (adv l a)))
def seqV (z : Int) : Int := if z = 0 then 0 else if z = 1 then 1 else if z = 2 then 5 else 16777215
theorem seq_at {z : Int} (h : 0 ≤ z ∧ z < 4) : ([.val (.int .i64 0), .val (.int .i64 1), .val (.int .i64 5), .val (.int .i64 16777215)] : List AV)[z.toNat * 1]? = some (.val (.int .i64 (seqV z))) := by
  rcases (show z = 0 ∨ z = 1 ∨ z = 2 ∨ z = 3 by omega) with rfl | rfl | rfl | rfl <;> rfl
/-- The numbers, i done. -/
def sLoop (l : List Int) (L : List Watch) (a : Nat) : Nat → List Watch × Nat
  | 0 => (L, a)
  | i + 1 => ((sLoop l L a i).1.set i { wat (sLoop l L a i).1 i with seq := seqV (nxt l (sLoop l L a i).2 4) }, adv l (sLoop l L a i).2)
def regOf (l : List Int) (a : Nat) : List Watch × Nat :=
  let r := bLoop l (nxt l a 22).toNat [] (adv l a)
  sLoop l r.1 r.2 r.1.length

/-- What registries of the laws look like. -/
def Small (L : List Watch) : Prop := L.length ≤ 16 ∧ ∀ w ∈ L, w.tok.length = 1 ∧ w.key.length = 1
theorem Small.short {L : List Watch} (h : Small L) : Short L := ⟨by have := h.1; omega, fun w hw => by have := h.2 w hw; omega⟩
theorem Small.nil : Small [] := ⟨by simp, fun w hw => by cases hw⟩
theorem Small.reg {L : List Watch} (h : Small L) {p now : Int} {t k : UInt8} : Small (regW L p [t] [k] now).1 := by
  unfold regW
  split
  · exact .nil
  · split
    · exact .nil
    · refine ⟨by simp only [List.length_append, List.length_cons, List.length_nil]; omega, fun w hw => ?_⟩
      rcases List.mem_append.1 hw with hw | hw
      · exact h.2 w (List.mem_filter.1 hw).1
      · obtain rfl : w = _ := by simpa using hw
        exact ⟨rfl, rfl⟩
theorem Small.set {L : List Watch} (h : Small L) {i : Nat} {s : Int} (hi : i < L.length) : Small (L.set i { wat L i with seq := s }) := by
  refine ⟨by rw [List.length_set]; exact h.1, fun w hw => ?_⟩
  rcases List.mem_or_eq_of_mem_set hw with hw | rfl
  · exact h.2 w hw
  · have : wat L i = L[i] := by simp [wat, hi]
    rw [this]
    exact h.2 L[i] (List.getElem_mem hi)
theorem sLoop_len (l : List Int) (L : List Watch) (a : Nat) : ∀ i, (sLoop l L a i).1.length = L.length
  | 0 => rfl
  | i + 1 => by rw [sLoop, List.length_set]; exact sLoop_len l L a i
theorem sLoop_adv {l : List Int} {L : List Watch} {a : Nat} (h : a ≤ l.length) : ∀ i, (sLoop l L a i).2 ≤ l.length
  | 0 => h
  | i + 1 => adv_le' (sLoop_adv h i)
theorem watchesA_set : ∀ (M : List Watch) (i : Nat) (s : Int), i < M.length → (watchesA M).set (i * 5 + 3) (.val (.int .i64 s)) = watchesA (M.set i { wat M i with seq := s })
  | [], i, s, h => by simp at h
  | w :: M, 0, s, h => by rw [watchesA_cons]; rfl
  | w :: M, i + 1, s, h => by
    rw [watchesA_cons, List.set_cons_succ, watchesA_cons, show wat (w :: M) (i + 1) = wat M i by simp [wat], ← watchesA_set M i s (by simpa using h), show (i + 1) * 5 + 3 = (i * 5 + 3) + 5 by omega]
    rfl
theorem spliceW {M : List Watch} {i : Nat} {s : Int} (h : i < M.length) : splice (watchesA M) (0 + Int.toNat (i : Int) * 5 + 3) [.val (.int .i64 s)] = watchesA (M.set i { wat M i with seq := s }) := by
  rw [Nat.zero_add]; exact watchesA_set M i s h

set_option maxHeartbeats 2000000 in
theorem registry_fn (b : Nat) (l : List Int) (a : Nat) (hl : l.length ≤ maxLen) (ha : a ≤ l.length) :
    Sp Try.prog 12 [ptr b] [deck b l a] (IsM (roW (regOf l a).1) (deck b l (regOf l a).2)) := by
  have n0 := nxt_in l a (n := 22) (by omega)
  have ha1 := adv_le' ha
  refine Sp.enter Try.func12 rfl _ Try.ntmps12 rfl (fun w0 R0 => ?_)
  refine AW.seq ?_
  refine AW.region ?_
  refine AO.op (O.assign rfl rfl) rfl rfl rfl ?_
  refine AO.nil ?_
  refine AQ.thenN ?_
  refine AW.seq ?_
  refine AW.region ?_
  refine AO.op (O.assign rfl rfl) rfl rfl rfl ?_
  refine AO.nil ?_
  refine AQ.thenN ?_
  refine AW.seq ?_
  refine AW.seq ?_
  refine AW.region ?_
  refine AO.op (O.move rfl rfl) rfl rfl rfl ?_
  (refine AO.callM1 (i := 0) rfl rfl Try.func25 rfl rfl rfl rfl rfl rfl (next_fn _ _ _ _ hl (by repeat (assumption)) (by omega) (by omega)) (by (dsimp only [List.set, List.append, List.cons_append, List.nil_append, splice, ofConst, AV.cells, List.map, List.map_cons, List.map_nil, List.take, List.drop, Nat.zero_add, Nat.add_zero, Nat.reduceAdd, Nat.reduceMul, Nat.zero_mul, Value.cells, List.toList_toArray, zerosA, List.replicate, List.flatten, List.append_nil]; done)) ?_)
  refine AO.op (O.assign rfl rfl) rfl rfl rfl ?_
  refine AO.nil ?_
  refine AQ.thenN ?_
  refine AW.block ?_
  refine AW.g ?_
  refine G.nilRow 58 5 ?_
  refine AW.u ?_
  refine AW.loop (fun n E H => ∃ (k : Nat) (L : List Watch) (a' : Nat) (V : Value), k ≤ 21 ∧ Small L ∧ a' ≤ l.length ∧ V.oneCell' = true ∧ bLoop l k L a' = bLoop l (nxt l a 22).toNat [] (adv l a) ∧ k = n ∧ E = [(0, ptr b), (3, .val V), (4, .val (.int .i64 (k : Int)))] ∧ H = [rowW V L, deck b l a']) ((nxt l a 22).toNat) (⟨(nxt l a 22).toNat, [], adv l a, .slice none 0 0, by omega, .nil, ha1, rfl, rfl, rfl, by rw [Int.toNat_of_nonneg n0.1], rfl⟩) (by repeat (first | exact envNil | refine envCons rfl ?_)) ⟨_, by repeat (first | exact List.Sublist.slnil | refine List.Sublist.cons_cons _ ?_), List.Perm.refl _⟩ ?_
  rintro n E H ⟨k, L, a', V0, hk, hsm, ha', hV0, hb, rfl, rfl, rfl⟩
  refine AW.seq ?_
  refine AW.seq ?_
  refine AW.region ?_
  refine AO.op (O.move rfl rfl) rfl rfl rfl ?_
  refine AO.op (O.gtr rfl rfl rfl (by rfl)) rfl rfl rfl ?_
  refine AO.nil ?_
  refine AQ.thenN ?_
  refine AW.split rfl (fun hpos => ?_) (fun hpos => ?_)
  · skip
    have hpos : 0 < (k : Int) := of_decide_eq_true hpos
    obtain ⟨j, rfl⟩ : ∃ j, k = j + 1 := ⟨k - 1, by omega⟩
    have n1 := nxt_in l a' (n := 5) (by omega)
    have n2 := nxt_in l (adv l a') (n := 5) (by omega)
    have n3 := nxt_in l (adv l (adv l a')) (n := 4) (by omega)
    have ha'' := adv_le' (adv_le' (adv_le' ha'))
    refine AW.skip ?_
    refine AQ.thenN ?_
    refine AW.seq ?_
    refine AW.block ?_
    refine AW.seq ?_
    refine AW.region ?_
    refine AO.op (O.move rfl rfl) rfl rfl rfl ?_
    refine AO.op (O.move rfl rfl) rfl rfl rfl ?_
    (refine AO.callM1 (i := 1) rfl rfl Try.func25 rfl rfl rfl rfl rfl rfl (next_fn _ _ _ _ hl (by repeat (assumption)) (by omega) (by omega)) (by (dsimp only [List.set, List.append, List.cons_append, List.nil_append, splice, ofConst, AV.cells, List.map, List.map_cons, List.map_nil, List.take, List.drop, Nat.zero_add, Nat.add_zero, Nat.reduceAdd, Nat.reduceMul, Nat.zero_mul, Value.cells, List.toList_toArray, zerosA, List.replicate, List.flatten, List.append_nil]; done)) ?_)
    refine AO.op (O.move rfl rfl) rfl rfl rfl ?_
    (refine AO.callM1 (i := 1) rfl rfl Try.func25 rfl rfl rfl rfl rfl rfl (next_fn _ _ _ _ hl (by repeat (first | assumption | refine adv_le' ?_)) (by omega) (by omega)) (by (dsimp only [List.set, List.append, List.cons_append, List.nil_append, splice, ofConst, AV.cells, List.map, List.map_cons, List.map_nil, List.take, List.drop, Nat.zero_add, Nat.add_zero, Nat.reduceAdd, Nat.reduceMul, Nat.zero_mul, Value.cells, List.toList_toArray, zerosA, List.replicate, List.flatten, List.append_nil]; done)) ?_)
    refine AO.op (O.conv rfl rfl wU8any) rfl rfl rfl ?_
    refine AO.opB (O.buildSlice rfl rfl rfl (by rfl) (by rfl) (by rfl) (by rfl)) rfl rfl rfl ?_
    intro B
    refine AO.g ?_
    (refine G.freezeSl 0 21 rfl rfl ⟨Nat.le_refl _, by unfold maxLen; omega⟩ ?_)
    refine G.unfull 21 rfl ?_
    refine AO.u ?_
    dsimp only [List.eraseIdx]
    refine AO.op (O.move rfl rfl) rfl rfl rfl ?_
    (refine AO.callM1 (i := 1) rfl rfl Try.func25 rfl rfl rfl rfl rfl rfl (next_fn _ _ _ _ hl (by repeat (first | assumption | refine adv_le' ?_)) (by omega) (by omega)) (by (dsimp only [List.set, List.append, List.cons_append, List.nil_append, splice, ofConst, AV.cells, List.map, List.map_cons, List.map_nil, List.take, List.drop, Nat.zero_add, Nat.add_zero, Nat.reduceAdd, Nat.reduceMul, Nat.zero_mul, Value.cells, List.toList_toArray, zerosA, List.replicate, List.flatten, List.append_nil]; done)) ?_)
    refine AO.op (O.conv rfl rfl wU8any) rfl rfl rfl ?_
    refine AO.opB (O.buildSlice rfl rfl rfl (by rfl) (by rfl) (by rfl) (by rfl)) rfl rfl rfl ?_
    intro B
    refine AO.g ?_
    (refine G.freezeSl 0 25 rfl rfl ⟨Nat.le_refl _, by unfold maxLen; omega⟩ ?_)
    refine G.unfull 25 rfl ?_
    refine AO.u ?_
    dsimp only [List.eraseIdx]
    refine AO.op (O.move rfl rfl) rfl rfl rfl ?_
    refine AO.callMG 0 rfl rfl Try.func19 rfl rfl rfl rfl rfl rfl (rregister_own _ (by assumption) _ hsm.short (nxt l a' 5) [u8 (nxt l (adv l a') 5)] [u8 (nxt l (adv l (adv l a')) 4)] _ (by simp) (by simp)) ?_
    rintro _ _ ⟨V, hV, rfl, rfl⟩
    dsimp only [List.cons_append, List.nil_append, List.eraseIdx]
    refine AO.op (O.move rfl rfl) rfl rfl rfl ?_
    refine AO.op (O.extract rfl rfl rfl) rfl rfl rfl ?_
    refine AO.op (O.extract rfl rfl rfl) rfl rfl rfl ?_
    refine AO.op (O.assign rfl rfl) rfl rfl rfl ?_
    refine AO.op (O.assign rfl rfl) rfl rfl rfl ?_
    refine AO.nil ?_
    refine AQ.thenN ?_
    refine AW.seq ?_
    refine AW.region ?_
    refine AO.op (O.move rfl rfl) rfl rfl rfl ?_
    refine AO.op (O.eql rfl rfl rfl (by rfl)) rfl rfl rfl ?_
    refine AO.nil ?_
    refine AQ.thenN ?_
    refine AW.split rfl (fun he => ?_) (fun he => ?_)
    · skip
      have he : (regW L (nxt l a' 5) [u8 (nxt l (adv l a') 5)] [u8 (nxt l (adv l (adv l a')) 4)] ((j : Int) + 1)).2 = 0 := by simpa using he
      rw [bLoop, if_pos he] at hb
      refine AW.region ?_
      refine AO.op (O.move rfl rfl) rfl rfl rfl ?_
      refine AO.op (O.assign rfl rfl) rfl rfl rfl ?_
      refine AO.nil ?_
      refine AQ.blockN ?_
      refine AQ.thenN ?_
      refine AW.region ?_
      refine AO.op (O.move rfl rfl) rfl rfl rfl ?_
      refine AO.op (O.sub rfl rfl rfl (by exact wI64 (by omega))) rfl rfl rfl ?_
      refine AO.op (O.assign rfl rfl) rfl rfl rfl ?_
      refine AO.nil ?_
      rw [show ((j + 1 : Nat) : Int) - 1 = (j : Int) by omega]
      refine AQ.loopN _ _ _ (Nat.lt_succ_self j) (⟨j, _, _, V, by omega, hsm.reg, ha'', hV, hb, rfl, rfl, rfl⟩) (by repeat (first | exact envNil | refine envCons rfl ?_)) ⟨_, by repeat (first | exact List.Sublist.slnil | refine List.Sublist.cons_cons _ ?_ | refine List.Sublist.cons _ ?_), List.Perm.refl _⟩
    · skip
      have he : ¬ (regW L (nxt l a' 5) [u8 (nxt l (adv l a') 5)] [u8 (nxt l (adv l (adv l a')) 4)] ((j : Int) + 1)).2 = 0 := by simpa using he
      rw [bLoop, if_neg he] at hb
      refine AW.skip ?_
      refine AQ.blockN ?_
      refine AQ.thenN ?_
      refine AW.region ?_
      refine AO.op (O.move rfl rfl) rfl rfl rfl ?_
      refine AO.op (O.sub rfl rfl rfl (by exact wI64 (by omega))) rfl rfl rfl ?_
      refine AO.op (O.assign rfl rfl) rfl rfl rfl ?_
      refine AO.nil ?_
      rw [show ((j + 1 : Nat) : Int) - 1 = (j : Int) by omega]
      refine AQ.loopN _ _ _ (Nat.lt_succ_self j) (⟨j, _, _, V0, by omega, hsm, ha'', hV0, hb, rfl, rfl, rfl⟩) (by repeat (first | exact envNil | refine envCons rfl ?_)) ⟨_, by repeat (first | exact List.Sublist.slnil | refine List.Sublist.cons_cons _ ?_ | refine List.Sublist.cons _ ?_), List.Perm.refl _⟩
  · skip
    have hpos : k = 0 := by have := of_decide_eq_false hpos; omega
    subst hpos
    have hr1 : L = (bLoop l (nxt l a 22).toNat [] (adv l a)).1 := congrArg Prod.fst hb
    have hr2 : a' = (bLoop l (nxt l a 22).toNat [] (adv l a)).2 := congrArg Prod.snd hb
    have hreg : regOf l a = sLoop l L a' L.length := by rw [hr1, hr2]; rfl
    rw [hreg]
    refine AW.exit ?_
    refine AQ.thenX ?_
    refine AQ.loopX ?_
    refine AQ.blockX rfl ?_
    refine AQ.thenN ?_
    refine AW.seq ?_
    refine AW.seq ?_
    refine AW.region ?_
    refine AO.op (O.move rfl rfl) rfl rfl rfl ?_
    refine AO.op (O.lenRow rfl rfl (by repeat (exact List.Mem.head _))) rfl rfl rfl ?_
    refine AO.op (O.move rfl rfl) rfl rfl rfl ?_
    refine AO.nil ?_
    refine AQ.thenN ?_
    refine AW.block ?_
    refine AW.loop (fun n E H => ∃ (i : Nat) (V : Value), i ≤ L.length ∧ V.oneCell' = true ∧ n = L.length - i ∧ E = [(0, ptr b), (3, .val V), (34, .val (.int .i64 (L.length : Int))), (35, .val (.int .i64 (i : Int)))] ∧ H = [rowW V (sLoop l L a' i).1, deck b l (sLoop l L a' i).2]) (L.length) (⟨0, V0, by omega, hV0, rfl, rfl, rfl⟩) (by repeat (first | exact envNil | refine envCons rfl ?_)) ⟨_, by repeat (first | exact List.Sublist.slnil | refine List.Sublist.cons_cons _ ?_), List.Perm.refl _⟩ ?_
    rintro n E H ⟨i, V, hi, hV, rfl, rfl, rfl⟩
    have hln := sLoop_len l L a' i
    have hlt16 := hsm.1
    have hlad := sLoop_adv (L := L) ha' i
    have n1 := nxt_in l (sLoop l L a' i).2 (n := 4) (by omega)
    refine AW.seq ?_
    refine AW.region ?_
    refine AO.op (O.lss rfl rfl rfl (by rfl)) rfl rfl rfl ?_
    refine AO.nil ?_
    refine AQ.thenN ?_
    refine AW.seq ?_
    refine AW.split rfl (fun hlt => ?_) (fun hlt => ?_)
    · skip
      have hlt : i < L.length := by have := of_decide_eq_true hlt; omega
      have hlt' : i < (sLoop l L a' i).1.length := by omega
      refine AW.g ?_
      refine G.openRow 0 rfl (by omega) (fun b' cap hc1 hc2 hxs hVe => ?_)
      refine AW.u ?_
      subst hVe
      refine AW.skip ?_
      refine AQ.thenN ?_
      refine AW.seq ?_
      refine AW.block ?_
      refine AW.seq ?_
      refine AW.region ?_
      refine AO.op (O.move rfl rfl) rfl rfl rfl ?_
      refine AO.op (O.assign rfl rfl) rfl rfl rfl ?_
      refine AO.nil ?_
      refine AQ.thenN ?_
      refine AW.region ?_
      refine AO.op (O.move rfl rfl) rfl rfl rfl ?_
      refine AO.op (O.move rfl rfl) rfl rfl rfl ?_
      refine AO.opB (O.buildSlice rfl rfl rfl (by rfl) (by rfl) (by rfl) (by rfl)) rfl rfl rfl ?_
      intro B
      refine AO.g ?_
      (refine G.freezeSl 0 40 rfl rfl ⟨Nat.le_refl _, by unfold maxLen; omega⟩ ?_)
      refine G.unfull 40 rfl ?_
      refine AO.u ?_
      dsimp only [List.eraseIdx]
      refine AO.op (O.move rfl rfl) rfl rfl rfl ?_
      (refine AO.callM1 (i := 1) rfl rfl Try.func25 rfl rfl rfl rfl rfl rfl (next_fn _ _ _ _ hl (by repeat (assumption)) (by omega) (by omega)) (by (dsimp only [List.set, List.append, List.cons_append, List.nil_append, splice, ofConst, AV.cells, List.map, List.map_cons, List.map_nil, List.take, List.drop, Nat.zero_add, Nat.add_zero, Nat.reduceAdd, Nat.reduceMul, Nat.zero_mul, Value.cells, List.toList_toArray, zerosA, List.replicate, List.flatten, List.append_nil]; done)) ?_)
      refine AO.op (O.idxR rfl rfl rfl ⟨(by omega), (by omega)⟩) rfl rfl rfl ?_
      refine AO.op (O.loadR rfl rfl (by exact seq_at (by omega))) rfl rfl rfl ?_
      refine AO.op (O.idxV rfl rfl rfl ⟨(by omega), (by omega)⟩) rfl rfl rfl ?_
      refine AO.op (O.fieldAddr rfl rfl) rfl rfl rfl ?_
      (refine AO.store (i := 0) rfl rfl rfl rfl rfl rfl (by rfl) (by rfl) (by exact Nat.ble_eq_true_of_le (by rw [watchesA_length]; omega)) (by exact spliceW (by assumption)) (by (dsimp only [List.set, List.append, List.cons_append, List.nil_append, splice, ofConst, AV.cells, List.map, List.map_cons, List.map_nil, List.take, List.drop, Nat.zero_add, Nat.add_zero, Nat.reduceAdd, Nat.reduceMul, Nat.zero_mul, Value.cells, List.toList_toArray, zerosA, List.replicate, List.flatten, List.append_nil]; done)) ?_)
      refine AO.nil ?_
      refine AQ.blockN ?_
      refine AQ.thenN ?_
      refine AW.region ?_
      refine AO.op (O.add rfl rfl rfl (by exact wI64 (by omega))) rfl rfl rfl ?_
      refine AO.op (O.move rfl rfl) rfl rfl rfl ?_
      refine AO.nil ?_
      refine AQ.g ?_
      refine G.closeRow (b := b') (n := (sLoop l L a' i).1.length) 0 rfl (by rw [watchesA_length, List.length_set]) rfl hc1 hc2 ?_
      refine AQ.u ?_
      refine AQ.loopN _ _ _ (by omega) (⟨i + 1, _, by omega, hV, rfl, rfl, by unfold rowW; rw [sLoop, List.length_set]⟩) (by repeat (first | exact envNil | refine envCons rfl ?_)) ⟨_, by repeat (first | exact List.Sublist.slnil | refine List.Sublist.cons_cons _ ?_), List.Perm.refl _⟩
    · skip
      have hlt : i = L.length := by have := of_decide_eq_false hlt; omega
      subst hlt
      refine AW.exit ?_
      refine AQ.thenX ?_
      refine AQ.loopX ?_
      refine AQ.blockX rfl ?_
      refine AQ.thenN ?_
      refine AW.seq ?_
      refine AW.region ?_
      refine AO.op (O.move rfl rfl) rfl rfl rfl ?_
      refine AO.op (O.assign rfl rfl) rfl rfl rfl ?_
      refine AO.nil ?_
      refine AQ.thenN ?_
      refine AW.ret ?_
      refine AQ.g ?_
      refine G.freezeRow 0 rfl [2] (by repeat (first | exact frNil | refine frCons rfl ?_)) ?_
      refine AQ.u ?_
      dsimp only [List.map, List.eraseIdx, List.cons_append, List.nil_append]
      refine AQ.ret1 rfl rfl ⟨_, by repeat (first | exact List.Sublist.slnil | refine List.Sublist.cons_cons _ ?_), List.Perm.refl _⟩ (⟨rfl, rfl⟩)
end Go.Proofs.Ytlcoanbdaephiaa.Ob

namespace Go.Proofs.Ytlcoanbdaephiaa.Ob
open Go.RowKit L A Dk
set_option linter.unusedVariables false
set_option linter.unusedSimpArgs false
attribute [local irreducible] AW AQ AO

def nextS (s : Int) : Int := (s + 1).tmod 16777216
def tell (key : List UInt8) (w : Watch) : Watch := if (w.key == key) = true then { w with seq := nextS w.seq } else w
def notW (ws : List Watch) (key : List UInt8) : List Watch := ws.map (tell key)
def toldW (ws : List Watch) (key : List UInt8) : List Watch := (notW ws key).filter fun w => w.key == key
def SeqOk (ws : List Watch) : Prop := ∀ w ∈ ws, 0 ≤ w.seq ∧ w.seq < 16777216
theorem SeqOk.at {ws : List Watch} (h : SeqOk ws) {k : Nat} (hk : k < ws.length) : 0 ≤ (wat ws k).seq ∧ (wat ws k).seq < 16777216 := by
  have : wat ws k = ws[k] := by simp [wat, hk]
  rw [this]; exact h _ (List.getElem_mem hk)
theorem tell_tok (key : List UInt8) (w : Watch) : (tell key w).tok = w.tok ∧ (tell key w).key = w.key ∧ (tell key w).peer = w.peer ∧ (tell key w).since = w.since := by unfold tell; split <;> exact ⟨rfl, rfl, rfl, rfl⟩
theorem notW_short {ws : List Watch} (h : Short ws) (key : List UInt8) : Short (notW ws key) := by
  refine ⟨by simp [notW]; exact h.1, fun w hw => ?_⟩
  obtain ⟨v, hv, rfl⟩ := List.mem_map.1 hw
  rw [(tell_tok key v).1, (tell_tok key v).2.1]
  exact h.2 v hv

/-- The first i told, the rest as it was. -/
def nTo (ws : List Watch) (key : List UInt8) (i : Nat) : List Watch := (ws.take i).map (tell key) ++ ws.drop i
theorem nTo_len (ws : List Watch) (key : List UInt8) (i : Nat) : (nTo ws key i).length = ws.length := by simp [nTo]; omega
theorem nTo_wat {ws : List Watch} {key : List UInt8} {i : Nat} (h : i < ws.length) : wat (nTo ws key i) i = wat ws i := by
  have h1 : ((ws.take i).map (tell key)).length = i := by simp; omega
  simp [wat, nTo, List.getD, List.getElem?_append_right, Nat.min_eq_left (Nat.le_of_lt h)]
theorem nTo_succ {ws : List Watch} {key : List UInt8} {i : Nat} (h : i < ws.length) : nTo ws key (i + 1) = (nTo ws key i).set i (tell key (wat ws i)) := by
  have hw : wat ws i = ws[i] := by simp [wat, h]
  have h1 : ((ws.take i).map (tell key)).length = i := by simp; omega
  rw [nTo, nTo, List.take_succ_eq_append_getElem h, List.set_append_right _ _ (by omega), h1, Nat.sub_self, List.drop_eq_getElem_cons h, List.set_cons_zero, hw, List.map_append, List.append_assoc]
  rfl
theorem nTo_same {ws : List Watch} {key : List UInt8} {i : Nat} (h : i < ws.length) (hk : ¬ ((wat ws i).key == key) = true) : nTo ws key (i + 1) = nTo ws key i := by
  rw [nTo_succ h, tell, if_neg hk]
  apply List.ext_getElem?
  intro j
  rw [List.getElem?_set]
  split
  · rename_i e
    subst e
    have h2 : i < (nTo ws key i).length := by rw [nTo_len]; exact h
    have := nTo_wat (key := key) h
    rw [if_pos h2, ← this]
    simp [wat, h2]
  · rfl
theorem nTo_all (ws : List Watch) (key : List UInt8) : nTo ws key ws.length = notW ws key := by simp [nTo, notW]

theorem at2 {M : List Watch} {i : Nat} (h : i < M.length) : (watchesA M)[0 + Int.toNat (i : Int) * 5 + 2]? = some (roB (wat M i).key) := by
  have := watchesA_at M i h
  have h2 : (((watchesA M).drop (i * 5)).take 5)[2]? = some (roB (wat M i).key) := by rw [this]; rfl
  simpa [List.getElem?_take, List.getElem?_drop] using h2
theorem at3 {M : List Watch} {i : Nat} (h : i < M.length) : (watchesA M)[0 + Int.toNat (i : Int) * 5 + 3]? = some (.val (.int .i64 (wat M i).seq)) := by
  have := watchesA_at M i h
  have h2 : (((watchesA M).drop (i * 5)).take 5)[3]? = some (.val (.int .i64 (wat M i).seq)) := by rw [this]; rfl
  simpa [List.getElem?_take, List.getElem?_drop] using h2

set_option maxHeartbeats 2000000 in
theorem notify_fn (ws : List Watch) (hsh : Short ws) (hsq : SeqOk ws) (key : List UInt8) : Sp Try.prog 30 [roW ws, roB key] [] (Is (.tup [roW (notW ws key), roW (toldW ws key)])) := by
  have hlen := hsh.1
  have HF1 := filter_fn ws hsh (fun _ => true) _ [] _ Try.func45 rfl rfl (fun p' tk' ky' s' t' => c4_fn _ _ _ _ _)
  have hft : ws.filter (fun _ => true) = ws := by simp
  rw [hft] at HF1
  have HF2 := filter_fn (notW ws key) (notW_short hsh key) (fun w => w.key == key) _ [.rp [roB key] 0] _ Try.func46 rfl rfl (fun p' tk' ky' s' t' => c5_fn _ _ _ _ _ _)
  refine Sp.enter Try.func30 rfl _ Try.ntmps30 rfl (fun w0 R0 => ?_)
  refine AW.seq ?_
  refine AW.region ?_
  refine AO.opB (O.box rfl rfl rfl rfl rfl) rfl rfl rfl ?_
  intro B
  refine AO.op (O.assign rfl rfl) rfl rfl rfl ?_
  refine AO.op (O.assign rfl rfl) rfl rfl rfl ?_
  refine AO.nil ?_
  refine AQ.thenN ?_
  refine AW.seq ?_
  refine AW.region ?_
  refine AO.op (O.move rfl rfl) rfl rfl rfl ?_
  refine AO.opRow (O.call rfl Try.func38 rfl rfl rfl (HF1)) rfl rfl rfl ?_
  intro V hV
  refine AO.op (O.assign rfl rfl) rfl rfl rfl ?_
  refine AO.nil ?_
  refine AQ.thenN ?_
  refine AW.seq ?_
  refine AW.seq ?_
  refine AW.region ?_
  refine AO.op (O.move rfl rfl) rfl rfl rfl ?_
  refine AO.op (O.lenRow rfl rfl (by repeat (exact List.Mem.head _))) rfl rfl rfl ?_
  refine AO.op (O.move rfl rfl) rfl rfl rfl ?_
  refine AO.nil ?_
  refine AQ.thenN ?_
  refine AW.block ?_
  refine AW.loop (fun n E H => ∃ (i : Nat), i ≤ ws.length ∧ n = ws.length - i ∧ E = [(3, .val (.pointer (some ⟨B, 0, none⟩))), (6, .val V), (11, .val (.int .i64 (ws.length : Int))), (12, .val (.int .i64 (i : Int)))] ∧ H = [.row V 58 5 ws.length (watchesA (nTo ws key i)), .blk B 24 1 [roB key]]) (ws.length) (⟨0, by omega, rfl, rfl, rfl⟩) (by repeat (first | exact envNil | refine envCons rfl ?_)) ⟨_, by repeat (first | exact List.Sublist.slnil | refine List.Sublist.cons_cons _ ?_), List.Perm.refl _⟩ ?_
  rintro n E H ⟨i, hi, rfl, rfl, rfl⟩
  refine AW.seq ?_
  refine AW.region ?_
  refine AO.op (O.lss rfl rfl rfl (by rfl)) rfl rfl rfl ?_
  refine AO.nil ?_
  refine AQ.thenN ?_
  refine AW.seq ?_
  refine AW.split rfl (fun hlt => ?_) (fun hlt => ?_)
  · skip
    have hlt : i < ws.length := by have := of_decide_eq_true hlt; omega
    have hln := nTo_len ws key i
    have hlt' : i < (nTo ws key i).length := by omega
    have hw := nTo_wat (key := key) hlt
    have hs := hsq.at hlt
    rw [← hw] at hs
    refine AW.g ?_
    refine G.openRow 0 rfl (by omega) (fun b' cap hc1 hc2 hxs hVe => ?_)
    refine AW.u ?_
    subst hVe
    refine AW.skip ?_
    refine AQ.thenN ?_
    refine AW.seq ?_
    refine AW.block ?_
    refine AW.seq ?_
    refine AW.region ?_
    refine AO.op (O.move rfl rfl) rfl rfl rfl ?_
    refine AO.op (O.assign rfl rfl) rfl rfl rfl ?_
    refine AO.nil ?_
    refine AQ.thenN ?_
    refine AW.seq ?_
    refine AW.regionD 7 (by kernel_rfl) (by kernel_rfl) ?_
    simp only [List.take_succ_cons, List.take_zero, List.drop_succ_cons, List.drop_zero]
    refine FA.op (O.move rfl rfl) rfl rfl rfl rfl ?_
    refine FA.op (O.move rfl rfl) rfl rfl rfl rfl ?_
    refine FA.op (O.idxV rfl rfl rfl ⟨(by omega), (by omega)⟩) rfl rfl rfl rfl ?_
    refine FA.op (O.fieldAddr rfl rfl) rfl rfl rfl rfl ?_
    refine FA.op (O.load rfl rfl (by repeat (exact List.Mem.head _)) (by exact at2 (by assumption))) rfl rfl rfl rfl ?_
    refine FA.op (O.load rfl rfl (by repeat (first | exact List.Mem.head _ | refine List.Mem.tail _ ?_)) (by rfl)) rfl rfl rfl rfl ?_
    refine FA.op (O.call rfl Try.func43 rfl rfl rfl (equal_fn _ _)) rfl rfl rfl rfl ?_
    refine FA.nil ?_
    simp only [chosen, List.nil_append, List.cons_append, List.append_nil]
    refine AO.nil ?_
    refine AQ.thenN ?_
    refine AW.split rfl (fun hk => ?_) (fun hk => ?_)
    · skip
      have hk : ((wat ws i).key == key) = true := by rw [← hw]; exact hk
      refine AW.region ?_
      refine AO.op (O.move rfl rfl) rfl rfl rfl ?_
      refine AO.op (O.move rfl rfl) rfl rfl rfl ?_
      refine AO.op (O.move rfl rfl) rfl rfl rfl ?_
      refine AO.op (O.move rfl rfl) rfl rfl rfl ?_
      refine AO.op (O.idxV rfl rfl rfl ⟨(by omega), (by omega)⟩) rfl rfl rfl ?_
      refine AO.op (O.fieldAddr rfl rfl) rfl rfl rfl ?_
      refine AO.op (O.load rfl rfl (by repeat (exact List.Mem.head _)) (by exact at3 (by assumption))) rfl rfl rfl ?_
      refine AO.op (O.add rfl rfl rfl (by exact wI64 (by omega))) rfl rfl rfl ?_
      refine AO.op (O.rem rfl rfl rfl (by omega) rfl) rfl rfl rfl ?_
      refine AO.op (O.idxV rfl rfl rfl ⟨(by omega), (by omega)⟩) rfl rfl rfl ?_
      refine AO.op (O.fieldAddr rfl rfl) rfl rfl rfl ?_
      (refine AO.store (i := 0) rfl rfl rfl rfl rfl rfl (by rfl) (by rfl) (by exact Nat.ble_eq_true_of_le (by rw [watchesA_length]; omega)) (by exact spliceW (by assumption)) (by (dsimp only [List.set, List.append, List.cons_append, List.nil_append, splice, ofConst, AV.cells, List.map, List.map_cons, List.map_nil, List.take, List.drop, Nat.zero_add, Nat.add_zero, Nat.reduceAdd, Nat.reduceMul, Nat.zero_mul, Value.cells, List.toList_toArray, zerosA, List.replicate, List.flatten, List.append_nil]; done)) ?_)
      refine AO.nil ?_
      refine AQ.blockN ?_
      refine AQ.thenN ?_
      refine AW.region ?_
      refine AO.op (O.add rfl rfl rfl (by exact wI64 (by omega))) rfl rfl rfl ?_
      refine AO.op (O.move rfl rfl) rfl rfl rfl ?_
      refine AO.nil ?_
      refine AQ.g ?_
      refine G.closeRow (b := b') (n := ws.length) 0 rfl (by rw [watchesA_length, List.length_set, hln]) rfl hc1 hc2 ?_
      refine AQ.u ?_
      refine AQ.loopN _ _ _ (by omega) (⟨i + 1, by omega, rfl, rfl, by rw [nTo_succ hlt, tell, if_pos hk, ← hw] <;> rfl⟩) (by repeat (first | exact envNil | refine envCons rfl ?_)) ⟨_, by repeat (first | exact List.Sublist.slnil | refine List.Sublist.cons_cons _ ?_), List.Perm.refl _⟩
    · skip
      have hk : ¬ ((wat ws i).key == key) = true := by rw [← hw, hk]; simp
      refine AW.skip ?_
      refine AQ.blockN ?_
      refine AQ.thenN ?_
      refine AW.region ?_
      refine AO.op (O.add rfl rfl rfl (by exact wI64 (by omega))) rfl rfl rfl ?_
      refine AO.op (O.move rfl rfl) rfl rfl rfl ?_
      refine AO.nil ?_
      refine AQ.g ?_
      refine G.closeRow (b := b') (n := ws.length) 0 rfl hxs rfl hc1 hc2 ?_
      refine AQ.u ?_
      refine AQ.loopN _ _ _ (by omega) (⟨i + 1, by omega, rfl, rfl, by rw [nTo_same hlt hk]⟩) (by repeat (first | exact envNil | refine envCons rfl ?_)) ⟨_, by repeat (first | exact List.Sublist.slnil | refine List.Sublist.cons_cons _ ?_), List.Perm.refl _⟩
  · skip
    have hlt : i = ws.length := by have := of_decide_eq_false hlt; omega
    subst hlt
    rw [nTo_all]
    refine AW.g ?_
    refine G.freezeRow 0 rfl [6] (by repeat (first | exact frNil | refine frCons rfl ?_)) ?_
    refine AW.u ?_
    have e : AV.ro false ws.length (watchesA (notW ws key)) = roW (notW ws key) := by simp [roW, notW]
    refine AW.g ?_
    refine G.re 6 (roW (notW ws key)) (by rw [← e]; rfl) ?_
    refine AW.u ?_
    refine AW.exit ?_
    refine AQ.thenX ?_
    refine AQ.loopX ?_
    refine AQ.blockX rfl ?_
    refine AQ.thenN ?_
    refine AW.seq ?_
    refine AW.region ?_
    refine AO.op (O.move rfl rfl) rfl rfl rfl ?_
    refine AO.op (O.move rfl rfl) rfl rfl rfl ?_
    refine AO.g ?_
    refine G.freezePtr 0 3 rfl rfl ?_
    refine AO.u ?_
    dsimp only [List.eraseIdx]
    refine AO.op (O.fn rfl rfl) rfl rfl rfl ?_
    refine AO.opRow (O.call rfl Try.func38 rfl rfl rfl (HF2)) rfl rfl rfl ?_
    intro V hV
    refine AO.op (O.assign rfl rfl) rfl rfl rfl ?_
    refine AO.op (O.assign rfl rfl) rfl rfl rfl ?_
    refine AO.nil ?_
    refine AQ.thenN ?_
    refine AW.ret ?_
    refine AQ.g ?_
    refine G.freezeRow 0 rfl [5] (by repeat (first | exact frNil | refine frCons rfl ?_)) ?_
    refine AQ.u ?_
    dsimp only [List.map, List.eraseIdx, List.cons_append, List.nil_append]
    refine AQ.ret2 rfl rfl rfl ⟨_, List.nil_sublist _, .nil⟩ (⟨rfl, rfl⟩)

def rTo (ws : List Watch) (key : List UInt8) (i : Nat) : List Watch := (ws.take i).map (tell key)
def kTo (ws : List Watch) (key : List UInt8) (i : Nat) : List Watch := (rTo ws key i).filter fun w => w.key == key
end Go.Proofs.Ytlcoanbdaephiaa.Ob

namespace Go.Proofs.Ytlcoanbdaephiaa.A
open Go.RowKit L
set_option linter.unusedVariables false
set_option linter.unusedSimpArgs false
section
variable {Γ : Cx} {P : Program} {Q : Exit → Act → World → Prop} {E : Env} {H : List HE}
end
end Go.Proofs.Ytlcoanbdaephiaa.A

namespace Go.Proofs.Ytlcoanbdaephiaa.A
open Go.RowKit L
set_option linter.unusedVariables false
set_option linter.unusedSimpArgs false

section
variable {P : Program} {ops : Array Oper} {N : Nat}

/-- The state on the way. -/
structure MJ (P : Program) (Γ : Cx) (ops : Array Oper) (Hs : List HE) (K : Env → List HE → Prop) (ord : List (Nat × Bool)) (late : List Nat) (listed : Array Bool) (A : Act) (W : World) (pre ms : List (Nat × Bool)) (Pd : List Nat) (E : Env) (H : List HE) (R : Nat → Prop) : Prop where
  size : listed.size = ops.size
  closed : Closed ops listed
  part : ∀ i, i < ops.size → (listed.getD i false = false ↔ i ∈ Pd ∨ i ∈ ms.map Prod.fst ∨ i ∈ late)
  ord : ord = pre ++ ms
  pdp : ∀ i ∈ Pd, (i, false) ∈ pre
  am : AM P Γ.N ops Hs K ms E H
  pend : ∀ i ∈ Pd, ∃ o d v, ops[i]? = some o ∧ o.dst = some d ∧ d < Γ.N ∧ look E d = some v ∧ OpF P Γ.N ops o (rst E (o.looksAt ops)) Hs (Is v)
  rels : RelS Γ R (H ++ Hs) W
  defers : A.defers = []
  tmps : A.tmps.size = Γ.N
  act : ∀ t v, look E t = some v → (∀ i ∈ Pd, ∀ o, ops[i]? = some o → o.dst ≠ some t) → RelV R W v (A.eval (.tmp t))

variable {Γ : Cx} {Hs : List HE} {K : Env → List HE → Prop} {ord : List (Nat × Bool)} {late : List Nat}

/-- What reads is pending as soon as it may run. -/
theorem MJ.absorb {listed : Array Bool} {A : Act} {W : World} {R : Nat → Prop} (hok : ordPairs ops (ancs ops.toList []) ord = true) : ∀ (ms pre : List (Nat × Bool)) (Pd : List Nat) (E : Env) (H : List HE), MJ P Γ ops Hs K ord late listed A W pre ms Pd E H R →
    ∃ pre' ms' Pd' E', MJ P Γ ops Hs K ord late listed A W pre' ms' Pd' E' H R ∧ (ms' = [] ∨ ∃ m r, ms' = (m, true) :: r)
  | [], pre, Pd, E, H, h => ⟨pre, [], Pd, E, h, .inl rfl⟩
  | (m, true) :: r, pre, Pd, E, H, h => ⟨pre, _, Pd, E, h, .inr ⟨m, r, rfl⟩⟩
  | (j, false) :: r, pre, Pd, E, H, h => by
    obtain ⟨o, d, v, ho, hd, hN, hop, ham⟩ := h.am
    have hord := h.ord
    have hq := ordPairs_app (pre := pre) (r := (j, false) :: r) (by rw [← hord]; exact hok)
    have hself : d ∉ o.looksAt ops := by
      have := hq.1
      rw [ordPairs] at this
      simp only [Bool.and_eq_true, ho, hd, Bool.false_or] at this
      simpa using this.1.1
    have hp : ∀ i ∈ Pd, ∀ oi, ops[i]? = some oi → d ∉ oi.looksAt ops ∧ oi.dst ≠ some d := fun i hi oi hoi => by
      have := pairOk (hq.2 _ (h.pdp i hi) (j, false) (List.mem_cons_self ..)) hoi ho
      obtain ⟨d', h1, h2, h3⟩ := this.flt rfl
      rw [hd] at h1
      cases h1
      exact ⟨h2, h3⟩
    refine MJ.absorb hok r (pre ++ [(j, false)]) (j :: Pd) ((d, v) :: E) H ⟨h.size, h.closed, fun i hi => ?_, by rw [hord]; simp, fun i hi => ?_, ham, fun i hi => ?_, h.rels, h.defers, h.tmps, fun t x ht hpd => ?_⟩
    · rw [h.part i hi]
      simp only [List.map_cons, List.mem_cons]
      constructor
      · rintro (h | (h | h) | h)
        · exact .inl (.inr h)
        · exact .inl (.inl h)
        · exact .inr (.inl h)
        · exact .inr (.inr h)
      · rintro ((h | h) | h | h)
        · exact .inr (.inl (.inl h))
        · exact .inl h
        · exact .inr (.inl (.inr h))
        · exact .inr (.inr h)
    · rcases List.mem_cons.1 hi with rfl | hi
      · simp
      · exact List.mem_append_left _ (h.pdp i hi)
    · rcases List.mem_cons.1 hi with rfl | hi
      · exact ⟨o, d, v, ho, hd, hN, look_here, by rw [rst_skip hself]; exact hop⟩
      · obtain ⟨oi, di, vi, h1, h2, h3, h4, h5⟩ := h.pend i hi
        obtain ⟨h6, h7⟩ := hp i hi oi h1
        refine ⟨oi, di, vi, h1, h2, h3, ?_, by rw [rst_skip h6]; exact h5⟩
        rw [look_skip (fun e => h7 (by rw [h2, e]))]; exact h4
    · have hne : d ≠ t := fun e => hpd j (List.mem_cons_self ..) o ho (by rw [hd, e])
      rw [look_skip hne] at ht
      exact h.act t x ht fun i hi => hpd i (List.mem_cons_of_mem _ hi)

theorem MJ.reads {listed : Array Bool} {A : Act} {W : World} {R : Nat → Prop} {pre ms : List (Nat × Bool)} {Pd : List Nat} {E : Env} {H : List HE} (hok : ordPairs ops (ancs ops.toList []) ord = true) (h : MJ P Γ ops Hs K ord late listed A W pre ms Pd E H R)
    {i : Nat} {b : Bool} {o : Oper} (ho : ops[i]? = some o) (hdeps : ∀ e ∈ o.after, Region.binds .any e = true → listed.getD e.on false = true) (hi : (i, b) ∈ pre ∧ i ∈ Pd ∧ b = false ∨ ∃ r, ms = (i, b) :: r) : RelA Γ.N R W (rst E (o.looksAt ops)) A := by
  refine ⟨h.defers, h.tmps, fun t v ht => ?_⟩
  obtain ⟨htl, ht⟩ := look_rst ht
  refine h.act t v ht fun k hk ok hok' hdk => ?_
  have hkp := h.pdp k hk
  have hkf : listed.getD k false = false := (h.part k (Array.getElem?_eq_some_iff.1 hok').1).2 (.inl hk)
  have direct : ordPair ops (ancs ops.toList []) k false i b = true → False := fun hp => by
    obtain ⟨e, he, hb, hon⟩ := (pairOk hp hok' ho).reads t hdk htl
    have := hdeps e he hb
    rw [hon, hkf] at this; cases this
  rcases hi with ⟨hip, hiP, rfl⟩ | ⟨r, hms⟩
  · -- both ahead
    obtain ⟨p1, p2, hp12⟩ := List.append_of_mem hkp
    have hord := h.ord
    rw [hp12, List.append_assoc] at hord
    rw [hp12] at hip
    rcases List.mem_append.1 hip with hip | hip
    · -- i ahead of k
      have hq := ordPairs_app (pre := p1) (by rw [← hord]; exact hok)
      have := pairOk (hq.2 _ hip (k, false) (List.mem_cons_self ..)) ho hok'
      obtain ⟨d', h1, h2, -⟩ := this.flt rfl
      rw [hdk] at h1; cases h1
      exact h2 htl
    · rcases List.mem_cons.1 hip with he | hip
      · cases he
        -- itself
        have hq := (ordPairs_app (pre := p1) (by rw [← hord]; exact hok)).1
        rw [List.cons_append, ordPairs] at hq
        simp only [Bool.and_eq_true] at hq
        obtain rfl : o = ok := by rw [ho] at hok'; exact Option.some.inj hok'
        have := hq.1.1
        rw [ho] at this
        simp only [hdk, Bool.false_or] at this
        simp at this
        exact this htl
      · rw [show p1 ++ ((k, false) :: p2 ++ ms) = (p1 ++ [(k, false)]) ++ (p2 ++ ms) by simp] at hord
        have hq := ordPairs_app (pre := p1 ++ [(k, false)]) (by rw [← hord]; exact hok)
        exact direct (hq.2 (k, false) (by simp) (i, false) (List.mem_append_left _ hip))
  · have hq := ordPairs_app (pre := pre) (r := ms) (by rw [← h.ord]; exact hok)
    exact direct (hq.2 _ hkp (i, b) (by rw [hms]; exact List.mem_cons_self ..))

/-- One stage. -/
theorem MJ.stage {Q : Exit → Act → World → Prop} (hback : ∀ i o, ops[i]? = some o → ∀ e ∈ o.after, Region.binds .any e = true → e.on < i) (hpairs : ordPairs ops (ancs ops.toList []) ord = true) (hlt : ∀ q ∈ ord, q.1 < ops.size)
    (hlate : ∀ j ∈ late, ∀ q ∈ ord, q.1 ∈ (ancs ops.toList []).getD j [])
    (hfin : ∀ (listed : Array Bool) (A : Act) (W : World) (E : Env) (H : List HE) (R : Nat → Prop), listed.size = ops.size → Closed ops listed → (∀ i, i < ops.size → (listed.getD i false = false ↔ i ∈ late)) → RelS Γ R (H ++ Hs) W → RelA Γ.N R W E A → K E H → wpAny P .any ops Q (listed.toList.count false) listed A W) :
    ∀ (fuel : Nat) (listed : Array Bool) (A : Act) (W : World) (pre ms : List (Nat × Bool)) (Pd : List Nat) (E : Env) (H : List HE) (R : Nat → Prop), fuel = listed.toList.count false →
      MJ P Γ ops Hs K ord late listed A W pre ms Pd E H R → (ms = [] ∨ ∃ m r, ms = (m, true) :: r) → wpAny P .any ops Q fuel listed A W := by
  intro fuel
  induction fuel with
  | zero =>
    intro listed A W pre ms Pd E H R hc hI hhd
    have hlist : ∀ i, i < ops.size → listed.getD i false = true := by
      intro i hi
      have hi' : i < listed.size := by rw [hI.size]; exact hi
      cases hb : listed.getD i false with
      | true => rfl
      | false =>
        exfalso
        have hm : false ∈ listed.toList := by
          rw [← hb]; simp [Array.getD, hi']
        have := List.count_pos_iff.2 hm
        omega
    have hms : ms = [] := by
      rcases hhd with h | ⟨m, r, h⟩
      · exact h
      · have h1 := hlt (m, true) (by rw [hI.ord, h]; simp)
        have := (hI.part m h1).2 (.inr (.inl (by rw [h]; simp)))
        rw [hlist m h1] at this; cases this
    have hPd : Pd = [] := by
      rw [List.eq_nil_iff_forall_not_mem]
      intro i hi
      have h1 := hlt (i, false) (by rw [hI.ord]; exact List.mem_append_left _ (hI.pdp i hi))
      have := (hI.part i h1).2 (.inl hi)
      rw [hlist i h1] at this; cases this
    subst hms
    subst hPd
    rw [hc]
    exact hfin listed A W E H R hI.size hI.closed (fun i hi => by rw [hI.part i hi]; simp) hI.rels ⟨hI.defers, hI.tmps, fun t v ht => hI.act t v ht fun i hi => (by cases hi)⟩ hI.am
  | succ fuel ih =>
    intro listed A W pre ms Pd E H R hc hI hhd
    by_cases hemp : ms = [] ∧ Pd = []
    · obtain ⟨rfl, rfl⟩ := hemp
      rw [hc]
      exact hfin listed A W E H R hI.size hI.closed (fun i hi => by rw [hI.part i hi]; simp) hI.rels ⟨hI.defers, hI.tmps, fun t v ht => hI.act t v ht fun i hi => (by cases hi)⟩ hI.am
    have hun : ∃ q ∈ ord, listed.getD q.1 false = false := by
      rcases hhd with h | ⟨m, r, h⟩
      · cases Pd with
        | nil => exact absurd ⟨h, rfl⟩ hemp
        | cons p Pd =>
          have h1 : (p, false) ∈ ord := by rw [hI.ord]; exact List.mem_append_left _ (hI.pdp p (List.mem_cons_self ..))
          exact ⟨_, h1, (hI.part p (hlt _ h1)).2 (.inl (List.mem_cons_self ..))⟩
      · have h1 : (m, true) ∈ ord := by rw [hI.ord, h]; simp
        exact ⟨_, h1, (hI.part m (hlt _ h1)).2 (.inr (.inl (by rw [h]; simp)))⟩
    have hne : ∃ i, i ∈ Region.ready .any ops listed := by
      have hex : ∃ i, i < ops.size ∧ listed.getD i false = false := by
        have hpos : 0 < listed.toList.count false := by omega
        obtain ⟨i, hi, hf⟩ := List.getElem_of_mem (List.count_pos_iff.1 hpos)
        have hi' : i < listed.size := by simpa using hi
        exact ⟨i, by rw [← hI.size]; exact hi', by simpa [Array.getD, hi'] using hf⟩
      obtain ⟨i, ⟨hi, hf⟩, hmin⟩ : ∃ i, (i < ops.size ∧ listed.getD i false = false) ∧ ∀ j, j < i → ¬ (j < ops.size ∧ listed.getD j false = false) := by
        obtain ⟨i, h⟩ := hex
        exact least ⟨i, h⟩
      have hio : ops[i]? = some ops[i] := by simp [hi]
      refine ⟨i, mem_ready.2 ⟨by rw [getD_tf (by rw [hI.size]; exact hi)]; exact hf, _, hio, fun e he hb => ?_⟩⟩
      have := hback i _ hio e he hb
      cases hb2 : listed.getD e.on false with
      | true => rfl
      | false => exact absurd ⟨by omega, hb2⟩ (hmin e.on this)
    refine ⟨fun e => (by obtain ⟨i, hi⟩ := hne; rw [e] at hi; cases hi), fun i hi => ?_⟩
    obtain ⟨h0, o, ho, hdeps⟩ := mem_ready.1 hi
    have hio : i < ops.size := (Array.getElem?_eq_some_iff.1 ho).1
    have hf : listed.getD i false = false := by rw [← getD_tf (by rw [hI.size]; exact hio)]; exact h0
    have hil : i < listed.size := by rw [hI.size]; exact hio
    have hanc : ∀ j, j ∈ (ancs ops.toList []).getD i [] → listed.getD j false = true := fun j hj => anc_listed hI.closed hback i o ho hdeps j hj
    have hcl := closed_set hI.closed ho hil hdeps
    have hcnt : fuel = (listed.setIfInBounds i true).toList.count false := by
      have hcs := count_set_true listed.toList i (by simpa using hil) (by simpa [Array.getD, hil] using hf)
      simp only [Array.toList_setIfInBounds]
      omega
    have hgd : ∀ k, k ≠ i → (listed.setIfInBounds i true).getD k false = listed.getD k false := fun k hk => getD_set_ne false (Ne.symm hk)
    have hgi : (listed.setIfInBounds i true).getD i false = true := by simp [Array.getD, hil]
    have hsz : (listed.setIfInBounds i true).size = ops.size := by simpa using hI.size
    have hnl : i ∉ late := fun h => by
      obtain ⟨q, hq, hqf⟩ := hun
      have := hanc q.1 (hlate i h q hq)
      rw [hqf] at this; cases this
    rcases (hI.part i hio).1 hf with hPd | hms | hlt'
    · -- one that reads
      obtain ⟨o', d, v, ho', hd, hN, hlk, hop⟩ := hI.pend i hPd
      obtain rfl : o = o' := by rw [ho] at ho'; exact Option.some.inj ho'
      have hA := hI.reads hpairs ho hdeps (b := false) (.inl ⟨hI.pdp i hPd, hPd, rfl⟩)
      have hs := hop R A W hI.rels.rlt (fun e he => hI.rels.ok e (List.mem_append_right _ he)) (fun e he b hb => (hI.rels.own e (List.mem_append_right _ he) b hb).2) hA
      have hnext : ∀ u W', (∃ v' Hn R', Is v v' Hn ∧ Post1 R W v' Hn u W' R') → wpAny P .any ops Q fuel (listed.setIfInBounds i true) (A.put o.dst u) W' := by
        rintro u W' ⟨v', Hn, R', ⟨rfl, rfl⟩, hp⟩
        have hnm : i ∉ ms.map Prod.fst := fun hm => by
          obtain ⟨⟨j, c⟩, hq, hji⟩ := List.mem_map.1 hm
          have hq2 := (ordPairs_app (pre := pre) (r := ms) (by rw [← hI.ord]; exact hpairs)).2 _ (hI.pdp i hPd) _ hq
          simp only at hji
          subst hji
          exact (pairOk hq2 ho ho).ne rfl
        refine ih _ _ _ pre ms (Pd.filter (· ≠ i)) E H R' hcnt ⟨hsz, hcl, fun k hk => ?_, hI.ord, fun k hk => hI.pdp k (List.mem_filter.1 hk).1, hI.am, fun k hk => hI.pend k (List.mem_filter.1 hk).1, by simpa using hI.rels.step hp, ?_, ?_, fun t x ht hpd => ?_⟩ hhd
        · by_cases hki : k = i
          · subst hki
            rw [hgi]
            simp [hnm, hnl]
          · rw [hgd k hki, hI.part k hk]
            simp [hki]
        · rw [hd]; exact hI.defers
        · rw [hd]; simp [Act.put, hI.tmps]
        · rw [hd]
          by_cases hdt : d = t
          · subst hdt
            rw [hlk] at ht
            cases ht
            rw [eval_put_same (by rw [hI.tmps]; exact hN)]; exact hp.val
          · rw [eval_put_other hdt]
            refine (hI.act t x ht fun k hk ok hok hdk => ?_).mono hp.sub (extSame hp.ext hI.rels.rlt)
            by_cases hki : k = i
            · subst hki
              rw [ho] at hok
              cases hok
              rw [hd] at hdk
              cases hdk
              exact hdt rfl
            · exact hpd k (List.mem_filter.2 ⟨hk, by simpa using hki⟩) ok hok hdk
      unfold wpOp
      rw [ho]
      unfold FStep at hs
      show if Region.wanted o (yielded ops A.tmps) = true then _ else _
      split
      · rename_i hw
        rw [if_pos hw] at hs
        refine .inl (Oper.wp_mono ?_ (wp_of_noQ hs))
        rintro A' W' ⟨u, rfl, hp⟩
        exact hnext u W' hp
      · rename_i hw
        rw [if_neg hw] at hs
        exact hnext _ _ hs
    · -- the next that writes
      rcases hhd with rfl | ⟨m, r, rfl⟩
      · cases hms
      have hmlt : m < ops.size := by have := hlt (m, true) (by rw [hI.ord]; simp); exact this
      have hmf : listed.getD m false = false := (hI.part m hmlt).2 (.inr (.inl (by simp)))
      have him : i = m := by
        rcases List.mem_cons.1 hms with h | h
        · exact h
        · exfalso
          obtain ⟨⟨j, c⟩, hq, hji⟩ := List.mem_map.1 h
          simp only at hji
          subst hji
          have h9 := (ordPairs_app (pre := pre ++ [(m, true)]) (r := r) (by have := hI.ord; rw [List.append_assoc, List.singleton_append, ← this]; exact hpairs)).2 (m, true) (by simp) _ hq
          have hom : ops[m]? = some ops[m] := by simp [hmlt]
          have := hanc m ((pairOk h9 hom ho).main rfl)
          rw [hmf] at this; cases this
      subst him
      obtain ⟨o', ho', hAO⟩ := hI.am
      obtain rfl : o = o' := by rw [ho] at ho'; exact Option.some.inj ho'
      have hA := hI.reads hpairs ho hdeps (b := true) (.inr ⟨r, rfl⟩)
      have hs := hAO W R R A W ⟨Mods.refl _ _, hI.rels.rlt, fun _ h => h, fun _ h => .inl h, fun e he => hI.rels.ok e (List.mem_append_left _ he), fun e he b hb => ⟨.inr ⟨e, he, hb⟩, (hI.rels.own e (List.mem_append_left _ he) b hb).2⟩, (List.pairwise_append.1 hI.rels.disj).1⟩ hA
      have hnext : ∀ u W', QS ⟨W, footOf H, R, Γ.N⟩ o.dst (fun v H' => AM P Γ.N ops Hs K r (putE o.dst v E) H') .normal (A.put o.dst u) W' → wpAny P .any ops Q fuel (listed.setIfInBounds i true) (A.put o.dst u) W' := by
        rintro u W' ⟨hdf, v, H', R', ham, hsr, hvr⟩
        obtain ⟨hrel, hRW⟩ := RelS.part hI.rels hsr
        have hpd : ∀ k ∈ Pd, ∀ ok, ops[k]? = some ok → ∀ d, o.dst = some d → d ∉ ok.looksAt ops ∧ ok.dst ≠ some d := fun k hk ok hok d hd => by
          have h9 := (ordPairs_app (pre := pre) (r := (i, true) :: r) (by rw [← hI.ord]; exact hpairs)).2 _ (hI.pdp k hk) (i, true) (List.mem_cons_self ..)
          have hkf : listed.getD k false = false := (hI.part k (Array.getElem?_eq_some_iff.1 hok).1).2 (.inl hk)
          have hno : k ∉ (ancs ops.toList []).getD i [] := fun hm => by
            have := hanc k hm
            rw [hkf] at this; cases this
          exact ⟨fun hm => hno ((pairOk h9 hok ho).mn rfl d hd (.inl hm)), fun he => hno ((pairOk h9 hok ho).mn rfl d hd (.inr he))⟩
        have hnr : i ∉ r.map Prod.fst := fun hm => by
          obtain ⟨⟨j, c⟩, hq, hji⟩ := List.mem_map.1 hm
          have h9 := (ordPairs_app (pre := pre ++ [(i, true)]) (r := r) (by have := hI.ord; rw [List.append_assoc, List.singleton_append, ← this]; exact hpairs)).2 (i, true) (by simp) _ hq
          simp only at hji
          subst hji
          exact (pairOk h9 ho ho).ne rfl
        have hnp : i ∉ Pd := fun hk => by
          have h9 := (ordPairs_app (pre := pre) (r := (i, true) :: r) (by rw [← hI.ord]; exact hpairs)).2 _ (hI.pdp i hk) (i, true) (List.mem_cons_self ..)
          exact (pairOk h9 ho ho).ne rfl
        have hI' : MJ P Γ ops Hs K ord late (listed.setIfInBounds i true) (A.put o.dst u) W' (pre ++ [(i, true)]) r Pd (putE o.dst v E) H' R' := by
          refine ⟨hsz, hcl, fun k hk => ?_, by rw [hI.ord]; simp, fun k hk => List.mem_append_left _ (hI.pdp k hk), ham, fun k hk => ?_, hrel, hdf, ?_, fun t x ht hp => ?_⟩
          · by_cases hki : k = i
            · subst hki
              rw [hgi]
              simp [hnr, hnp, hnl]
            · rw [hgd k hki, hI.part k hk]
              simp [hki]
          · obtain ⟨ok, dk, vk, h1, h2, h3, h4, h5⟩ := hI.pend k hk
            refine ⟨ok, dk, vk, h1, h2, h3, ?_, ?_⟩
            · cases hd : o.dst with
              | none => exact h4
              | some d => rw [putE, look_skip (fun e => (hpd k hk ok h1 d hd).2 (by rw [h2, e]))]; exact h4
            · cases hd : o.dst with
              | none => exact h5
              | some d => rw [putE, rst_skip (hpd k hk ok h1 d hd).1]; exact h5
          · cases hd : o.dst <;> simp [Act.put, hI.tmps]
          · cases hd : o.dst with
            | none =>
              rw [hd] at ht
              exact (hI.act t x ht hp).mono hsr.rsub hRW
            | some d =>
              rw [hd, putE] at ht
              by_cases hdt : d = t
              · subst hdt
                rw [look_here] at ht
                cases ht
                have := hvr d hd
                rwa [hd] at this
              · rw [look_skip hdt] at ht
                rw [eval_put_other hdt]
                exact (hI.act t x ht hp).mono hsr.rsub hRW
        obtain ⟨pre', ms', Pd', E', hI2, hh2⟩ := hI'.absorb hpairs
        exact ih _ _ _ pre' ms' Pd' E' H' R' hcnt hI2 hh2
      unfold wpOp
      rw [ho]
      unfold wpList at hs
      show if Region.wanted o (yielded ops A.tmps) = true then _ else _
      split
      · rename_i hw
        rw [if_pos hw] at hs
        refine .inl ?_
        rcases hs with hs | ⟨-, a', w', hl⟩
        · have hs2 : o.wp P A W (wpList P ops (QS ⟨W, footOf H, R, Γ.N⟩ o.dst (fun v H' => AM P Γ.N ops Hs K r (putE o.dst v E) H')) []) NoQ := by
            unfold Oper.wp at hs ⊢
            revert hs
            cases (execOp A.eval o).run P W with
            | ok n w' =>
              cases n with
              | enter f args =>
                intro hs
                refine Calls.mono hs ?_
                intro e w'' he
                cases e with
                | returned v => exact he
                | outgrown => obtain ⟨a', w', hl⟩ := he; exact hl.elim
                | _ => exact he.elim
              | _ => exact fun h => h
            | halt x w' => cases x <;> exact fun h => h
          refine Oper.wp_mono ?_ (wp_of_noQ (Oper.wp_put hs2))
          rintro A' W' ⟨hq, hA'⟩
          have hq' : QS ⟨W, footOf H, R, Γ.N⟩ o.dst (fun v H' => AM P Γ.N ops Hs K r (putE o.dst v E) H') .normal A' W' := hq
          rcases hA' with ⟨u, rfl⟩ | hnd
          · exact hnext u W' hq'
          · exact absurd hq'.1 hnd
        · exact hl.elim
      · rename_i hw
        rw [if_neg hw] at hs
        exact hnext _ _ hs
    · exact absurd hlt' hnl

/-- Operations in stages. -/
def AMS (P : Program) (N : Nat) (ops : Array Oper) (K : Env → List HE → Prop) : List (List (Nat × Bool)) → Env → List HE → Prop
  | [], E, H => K E H
  | ord :: r, E, H => ∃ Hm Hs, SplitH E H Hm Hs ∧ AM P N ops Hs (fun E' H' => AMS P N ops K r E' (H' ++ Hs)) ord E Hm
theorem AMS.go {ord : List (Nat × Bool)} {r : List (List (Nat × Bool))} {E : Env} {H Hm Hs : List HE} (hH : SplitH E H Hm Hs) (h : AM P N ops Hs (fun E' H' => AMS P N ops K r E' (H' ++ Hs)) ord E Hm) : AMS P N ops K (ord :: r) E H := ⟨Hm, Hs, hH, h⟩
theorem AMS.nil {E : Env} {H : List HE} (h : K E H) : AMS P N ops K [] E H := h
def stagesOk (ops : Array Oper) (an : List (List Nat)) : List (List (Nat × Bool)) → Bool
  | [] => true
  | ord :: r => ordPairs ops an ord && (ord.all fun q => decide (q.1 < ops.size)) && (r.all fun s => s.all fun j => ord.all fun q => (an.getD j.1 []).contains q.1) && stagesOk ops an r
def stagesAll (ops : Array Oper) (os : List (List (Nat × Bool))) : Bool :=
  ((List.range ops.size).all fun i => os.any fun ord => ord.any fun q => q.1 == i) &&
  ((List.range ops.size).all fun i => (ops[i]?).all fun o => o.after.all fun e => !Region.binds .any e || decide (e.on < i)) && stagesOk ops (ancs ops.toList []) os
theorem AMS.run {Q : Exit → Act → World → Prop} (hback : ∀ i o, ops[i]? = some o → ∀ e ∈ o.after, Region.binds .any e = true → e.on < i) : ∀ (os : List (List (Nat × Bool))), stagesOk ops (ancs ops.toList []) os = true →
    ∀ (listed : Array Bool) (A : Act) (W : World) (E : Env) (H : List HE) (R : Nat → Prop), listed.size = ops.size → Closed ops listed → (∀ i, i < ops.size → (listed.getD i false = false ↔ i ∈ (os.flatten).map Prod.fst)) → RelS Γ R H W → RelA Γ.N R W E A →
      AMS P Γ.N ops (fun E' H' => AQ Γ Q .normal E' H') os E H → wpAny P .any ops Q (listed.toList.count false) listed A W
  | [], _, listed, A, W, E, H, R, hsz, hcl, hpt, hs, ha, h => by
    have hlist : ∀ i, i < ops.size → listed.getD i false = true := by
      intro i hi
      cases hb : listed.getD i false with
      | true => rfl
      | false => have := (hpt i hi).1 hb; cases this
    have h0 : listed.toList.count false = 0 := by
      rw [List.count_eq_zero]
      intro hm
      obtain ⟨i, hi, hf⟩ := List.getElem_of_mem hm
      have hi' : i < listed.size := by simpa using hi
      have := hlist i (by rw [← hsz]; exact hi')
      rw [show listed.getD i false = listed[i] by simp [Array.getD, hi']] at this
      rw [show listed.toList[i] = listed[i] by simp, this] at hf
      cases hf
    rw [h0]
    refine ⟨?_, h R A W hs ha⟩
    rw [List.eq_nil_iff_forall_not_mem]
    intro i hi
    obtain ⟨h0, o, ho, _⟩ := mem_ready.1 hi
    have hi' : i < ops.size := (Array.getElem?_eq_some_iff.1 ho).1
    have := hlist i hi'
    rw [← getD_tf (by rw [hsz]; exact hi')] at this
    rw [this] at h0; cases h0
  | ord :: os, hok, listed, A, W, E, H, R, hsz, hcl, hpt, hs, ha, h => by
    rw [stagesOk] at hok
    simp only [Bool.and_eq_true, List.all_eq_true, decide_eq_true_eq, List.contains_eq_mem] at hok
    obtain ⟨⟨⟨hp, hlt⟩, hlate⟩, hrest⟩ := hok
    obtain ⟨Hm, Hs, hH, hAM⟩ := h
    have hI : MJ P Γ ops Hs (fun E' H' => AMS P Γ.N ops (fun E' H' => AQ Γ Q .normal E' H') os E' (H' ++ Hs)) ord (os.flatten.map Prod.fst) listed A W [] ord [] E Hm R := by
      refine ⟨hsz, hcl, fun i hi => ?_, rfl, fun i hi => (by cases hi), hAM, fun i hi => (by cases hi), hs.perm hH.symm, ha.defers, ha.size, fun t v ht _ => ha.slots t v ht⟩
      rw [hpt i hi]
      simp
    obtain ⟨pre', ms', Pd', E', hI2, hh2⟩ := hI.absorb hp
    refine MJ.stage hback hp hlt (fun j hj q hq => ?_) (fun listed A W E H R h1 h2 h3 h4 h5 h6 => AMS.run hback os hrest listed A W E _ R h1 h2 h3 h4 h5 h6) _ listed A W pre' ms' Pd' E' Hm R rfl hI2 hh2
    obtain ⟨x, hx, rfl⟩ := List.mem_map.1 hj
    obtain ⟨s, hs1, hs2⟩ := List.mem_flatten.1 hx
    exact hlate s hs1 x hs2 q hq
end
end Go.Proofs.Ytlcoanbdaephiaa.A

namespace Go.Proofs.Ytlcoanbdaephiaa.A
open Go.RowKit L
set_option linter.unusedVariables false
set_option linter.unusedSimpArgs false
section
variable {Γ : Cx} {P : Program} {ops : Array Oper} {Q : Exit → Act → World → Prop} {E : Env} {H : List HE} {o : Oper} {rest : List Oper}
end
end Go.Proofs.Ytlcoanbdaephiaa.A

namespace Go.Proofs.Ytlcoanbdaephiaa.A
open Go.RowKit L
set_option linter.unusedVariables false
set_option linter.unusedSimpArgs false
section
variable {P : Program} {E : Env} {H : List HE} {N : Nat} {o : Oper}
end
end Go.Proofs.Ytlcoanbdaephiaa.A

namespace Go.Proofs.Ytlcoanbdaephiaa.A
open Go.RowKit L
set_option linter.unusedVariables false
set_option linter.unusedSimpArgs false
section
variable {Γ : Cx} {P : Program} {Q : Exit → Act → World → Prop} {E : Env} {H : List HE} {N : Nat} {o : Oper} {ops : Array Oper} {rest : List Oper}
theorem CoeL.app {a b x y : List AV} (h : CoeL a b) (k : CoeL x y) : CoeL (a ++ x) (b ++ y) := fun R W us hu => by
  induction a generalizing b us with
  | nil =>
    have hb : b = [] := by
      have := (h R W [] RelL.nil).1
      exact List.eq_nil_of_length_eq_zero this.symm
    subst hb
    exact k R W us hu
  | cons u a ih =>
    have h1 : us.take (a.length + 1) ++ us.drop (a.length + 1) = us := List.take_append_drop ..
    have h2 := hu.take (a.length + 1)
    have h3 := hu.drop (a.length + 1)
    rw [show ((u :: a) ++ x).take (a.length + 1) = u :: a by simp] at h2
    rw [show ((u :: a) ++ x).drop (a.length + 1) = x by simp] at h3
    rw [← h1]
    exact RelL.app (h R W _ h2) (k R W _ h3)
theorem Coe.ro {full : Bool} {n : Nat} {xs ys : List AV} (h : CoeL xs ys) : Coe (.ro full n xs) (.ro full n ys) := fun R W u hu => by
  cases hu with
  | emp _ a cap h1 h2 =>
    have hy : ys = [] := List.eq_nil_of_length_eq_zero (h R W [] RelL.nil).1.symm
    subst hy
    exact .emp _ a cap h1 h2
  | ro _ _ _ b off cap us hb hc hr h1 h2 h3 =>
    have hl : RelL R W xs ((List.range xs.length).map us) := ⟨by simp, fun j hj => by simpa [hj] using hr j hj⟩
    have hk := h R W _ hl
    have he : ys.length = xs.length := by have := hk.1; simpa using this.symm
    refine .ro _ _ _ b off cap us hb (fun j hj => hc j (by omega)) (fun j hj => ?_) h1 h2 h3
    have := hk.2 j hj
    rw [he] at hj
    simpa [hj] using this
/-- A literal whose elements are all given, in order. -/
def seqA (k : Nat) : Nat → List (Nat × AV) → Option (List AV)
  | _, [] => some []
  | i, (j, v) :: r => bif Nat.beq j i && Nat.beq v.cells.length k then (match seqA k (i + 1) r with | some ys => some (v.cells ++ ys) | none => none) else none
/-! ### Several results, each in a temporary or in a box -/
def resOne (tmps : Array Value) : ResultVar → Sem Value
  | .tmp t => pure (tmps.getD t undef)
  | .cell a t => do loadVar t (← asAddr (tmps.getD a undef))
def ResAt (Γ : Cx) (P : Program) (E : Env) (H : List HE) (x : ResultVar) (q : AV) : Prop :=
  ∀ R a W, RelS Γ R H W → RelA Γ.N R W E a → ∃ u, (resOne a.tmps x).run P W = .ok u W ∧ RelV R W q u
theorem ResAt.tmp {t : Nat} {q : AV} (h : look E t = some q) : ResAt Γ P E H (.tmp t) q := fun R a W hs ha => ⟨a.eval (.tmp t), rfl, ha.slots t q h⟩
theorem ResAt.cell {t T k b T' room : Nat} {xs ys : List AV} [hg : TyG P T true k] (ht : look E t = some (.val (.pointer (some ⟨b, 0, none⟩)))) (hm : HE.blk b T' room xs ∈ H) (hv : xs.take k = ys) (hk : ys.length = k) : ResAt Γ P E H (.cell t T) (.agg ys) := fun R a W hs ha => by
  obtain ⟨us, cs, hb, hsz, hts, hrl⟩ := hs.ok _ hm
  have hrl := hrl.take k
  rw [hv] at hrl
  have hl := run_loadVarK hg W b 0 (us.take k) (by rw [hrl.1, hk]) (fun i u hi => by
    rw [cell_of_row W b (0 + i) cs T' (0, 0) hb]
    rw [List.getElem?_take] at hi
    split at hi
    · rw [← hts, List.getElem?_take] at hi
      split at hi
      · simpa using hi
      · cases hi
    · cases hi)
  have hv' := (ha.slots t _ ht).val_inv
  refine ⟨.agg (us.take k).toArray, ?_, hrl.toAgg⟩
  have : a.tmps.getD t undef = .pointer (some ⟨b, 0, none⟩) := hv'
  simp [resOne, this, asAddr, hl]
end
end Go.Proofs.Ytlcoanbdaephiaa.A

namespace Go.Proofs.Ytlcoanbdaephiaa.A
open Go.RowKit L
set_option linter.unusedVariables false
set_option linter.unusedSimpArgs false

section
variable {P : Program} {ops : Array Oper} {N : Nat}
/-- Operations in this order: true those that write, false those that read. -/
structure Al where
  (i d T room : Nat) (xs : List AV)
def Al.ok (P : Program) (N : Nat) (ops : Array Oper) (al : Al) : Prop :=
  ∃ o, ops[al.i]? = some o ∧ o.dst = some al.d ∧ al.d < N ∧ o.guard = none ∧ OpW P N o [] [] (NewBlk (fun b => .val (.pointer (some ⟨b, 0, none⟩))) al.T al.room al.xs)
def Al.he (al : Al) (b : Nat) : HE := .blk b al.T al.room al.xs
def Al.hs (al : Al) : Option Nat → List HE
  | none => []
  | some b => [al.he b]
def AN (P : Program) (N : Nat) (ops : Array Oper) (al : Al) (Hs : List HE) (K : Env → List HE → Prop) : List (Nat × Bool) → Env → List HE → Prop
  | [], E, H => K E H
  | (i, true) :: r, E, H => if i = al.i then (∀ b, AN P N ops al Hs K r ((al.d, .val (.pointer (some ⟨b, 0, none⟩))) :: E) (al.he b :: H)) else ∃ o, ops[i]? = some o ∧ ∀ w0 R0, AO ⟨w0, footOf H, R0, N⟩ P ops (QS ⟨w0, footOf H, R0, N⟩ o.dst (fun v H' => AN P N ops al Hs K r (putE o.dst v E) H')) [o] (rst E (o.looksAt ops)) H
  | (i, false) :: r, E, H => ∃ o d v, ops[i]? = some o ∧ o.dst = some d ∧ d < N ∧ OpF P N ops o (rst E (o.looksAt ops)) Hs (Is v) ∧ AN P N ops al Hs K r ((d, v) :: E) H

/-- One operation ahead of another. -/
def ordPairA (ops : Array Oper) (ia : Nat) (an : List (List Nat)) (i : Nat) (b : Bool) (j : Nat) (c : Bool) : Bool :=
  match ops[i]?, ops[j]? with
  | some oi, some oj =>
    let waits := oj.after.any fun e => Region.binds .any e && e.on == i
    let anc := (an.getD j []).contains i
    (i != j) && (!b || anc || j == ia) &&
    (match oj.dst with
      | some d => bif c && j != ia then (!((oi.looksAt ops).contains d || oi.dst == some d)) || anc else !(oi.looksAt ops).contains d && oi.dst != some d
      | none => c && j != ia) &&
    (match oi.dst with
      | some d => !(oj.looksAt ops).contains d || waits
      | none => true)
  | _, _ => false
def ordPairsA (ops : Array Oper) (ia : Nat) (an : List (List Nat)) : List (Nat × Bool) → Bool
  | [] => true
  | (i, b) :: r => (b || (match ops[i]? with | some o => (match o.dst with | some d => !(o.looksAt ops).contains d | none => false) | none => false)) && r.all (fun q => ordPairA ops ia an i b q.1 q.2) && ordPairsA ops ia an r
def ordOkA (ops : Array Oper) (ia : Nat) (ord : List (Nat × Bool)) : Bool :=
  ((List.range ops.size).all fun i => (ord.map Prod.fst).contains i) && (ord.all fun q => decide (q.1 < ops.size)) &&
  ((List.range ops.size).all fun i => (ops[i]?).all fun o => o.after.all fun e => !Region.binds .any e || decide (e.on < i)) && (ord.all fun q => q.1 != ia || q.2) && ordPairsA ops ia (ancs ops.toList []) ord

theorem ordPairsA_app {ia : Nat} {an : List (List Nat)} : ∀ {pre r : List (Nat × Bool)}, ordPairsA ops ia an (pre ++ r) = true → ordPairsA ops ia an r = true ∧ ∀ q ∈ pre, ∀ s ∈ r, ordPairA ops ia an q.1 q.2 s.1 s.2 = true
  | [], r, h => ⟨h, fun q hq => by cases hq⟩
  | (i, b) :: pre, r, h => by
    rw [List.cons_append, ordPairsA] at h
    simp only [Bool.and_eq_true, List.all_eq_true] at h
    obtain ⟨h1, h2⟩ := ordPairsA_app h.2
    refine ⟨h1, fun q hq s hs => ?_⟩
    rcases List.mem_cons.1 hq with rfl | hq
    · exact h.1.2 s (List.mem_append_right _ hs)
    · exact h2 q hq s hs

structure PairOkA (ops : Array Oper) (ia : Nat) (an : List (List Nat)) (i : Nat) (b : Bool) (oi : Oper) (j : Nat) (c : Bool) (oj : Oper) : Prop where
  ne : i ≠ j
  main : b = true → j ≠ ia → i ∈ an.getD j []
  flt : c = false ∨ j = ia → ∃ d, oj.dst = some d ∧ d ∉ oi.looksAt ops ∧ oi.dst ≠ some d
  mn : c = true → j ≠ ia → ∀ d, oj.dst = some d → (d ∈ oi.looksAt ops ∨ oi.dst = some d) → i ∈ an.getD j []
  reads : ∀ d, oi.dst = some d → d ∈ oj.looksAt ops → ∃ e ∈ oj.after, Region.binds .any e = true ∧ e.on = i
theorem pairOkA {ia : Nat} {an : List (List Nat)} {i j : Nat} {b c : Bool} {oi oj : Oper} (h : ordPairA ops ia an i b j c = true) (hi : ops[i]? = some oi) (hj : ops[j]? = some oj) : PairOkA ops ia an i b oi j c oj := by
  unfold ordPairA at h
  rw [hi, hj] at h
  simp only [Bool.and_eq_true, bne_iff_ne, ne_eq] at h
  obtain ⟨⟨⟨h1, h2⟩, h3⟩, h4⟩ := h
  refine ⟨h1, fun hb hj => ?_, fun hc => ?_, fun hc hj d hd hm => ?_, fun d hd hm => ?_⟩
  · subst hb; simpa [hj] using h2
  · have hcj : (c && j != ia) = false := by rcases hc with hc | hc <;> simp [hc]
    cases hd : oj.dst with
    | none => rw [hd] at h3; simp only [hcj] at h3; cases h3
    | some d =>
      rw [hd] at h3
      simp only [hcj, cond_false] at h3
      simp at h3
      exact ⟨d, rfl, h3.1, h3.2⟩
  · subst hc
    have hcj : (true && j != ia) = true := by simp [hj]
    rw [hd] at h3
    simp only [hcj, cond_true] at h3
    simp at h3
    rcases h3 with h3 | h3
    · rcases hm with hm | hm
      · exact absurd hm h3.1
      · exact absurd hm h3.2
    · exact h3
  · rw [hd] at h4
    simp only [Bool.or_eq_true, Bool.not_eq_true', List.contains_eq_mem, decide_eq_false_iff_not] at h4
    rcases h4 with h4 | h4
    · exact absurd hm h4
    · obtain ⟨x, hx, hx2⟩ := any_mem h4
      simp only [Bool.and_eq_true, beq_iff_eq] at hx2
      exact ⟨x, hx, hx2.1, hx2.2⟩

/-- The state on the way. -/
structure NI (P : Program) (Γ : Cx) (ops : Array Oper) (al : Al) (Hs : List HE) (K : Env → List HE → Prop) (ord : List (Nat × Bool)) (listed : Array Bool) (A : Act) (W : World) (pre ms : List (Nat × Bool)) (Pd : List Nat) (ea : Option Nat) (E : Env) (H : List HE) (R : Nat → Prop) : Prop where
  size : listed.size = ops.size
  closed : Closed ops listed
  part : ∀ i, i < ops.size → (listed.getD i false = false ↔ (i ∈ Pd ∨ i ∈ ms.map Prod.fst) ∧ (ea ≠ none → i ≠ al.i))
  ord : ord = pre ++ ms
  pdp : ∀ i ∈ Pd, (i, false) ∈ pre
  am : AN P Γ.N ops al Hs K ms E H
  pend : ∀ i ∈ Pd, ∃ o d v, ops[i]? = some o ∧ o.dst = some d ∧ d < Γ.N ∧ look E d = some v ∧ OpF P Γ.N ops o (rst E (o.looksAt ops)) Hs (Is v)
  rels : RelS Γ R (H ++ (al.hs ea ++ Hs)) W
  eal : ∀ b, ea = some b → (al.i, true) ∈ ms ∧ A.eval (.tmp al.d) = .pointer (some ⟨b, 0, none⟩)
  defers : A.defers = []
  tmps : A.tmps.size = Γ.N
  act : ∀ t v, look E t = some v → (∀ i ∈ Pd, ∀ o, ops[i]? = some o → o.dst ≠ some t) → (ea ≠ none → t ≠ al.d) → RelV R W v (A.eval (.tmp t))

variable {Γ : Cx} {al : Al} {Hs : List HE} {K : Env → List HE → Prop} {ord : List (Nat × Bool)}

/-- What reads is pending as soon as it may run. -/
theorem NI.absorb {listed : Array Bool} {A : Act} {W : World} {R : Nat → Prop} (hok : ordPairsA ops al.i (ancs ops.toList []) ord = true) (hal : al.ok P Γ.N ops) : ∀ (ms pre : List (Nat × Bool)) (Pd : List Nat) (ea : Option Nat) (E : Env) (H : List HE), NI P Γ ops al Hs K ord listed A W pre ms Pd ea E H R →
    ∃ pre' ms' Pd' ea' E' H', NI P Γ ops al Hs K ord listed A W pre' ms' Pd' ea' E' H' R ∧ (ms' = [] ∨ ∃ m r, ms' = (m, true) :: r ∧ (m = al.i → ea' = none))
  | [], pre, Pd, ea, E, H, h => ⟨pre, [], Pd, ea, E, H, h, .inl rfl⟩
  | (m, true) :: r, pre, Pd, ea, E, H, h => by
    by_cases hm : m = al.i
    · subst hm
      cases hea : ea with
      | none => subst hea; exact ⟨pre, _, Pd, none, E, H, h, .inr ⟨_, r, rfl, fun _ => rfl⟩⟩
      | some b =>
        subst hea
        obtain ⟨oa, ho, hd, hN, hg, hop⟩ := hal
        have ham := h.am
        rw [AN, if_pos rfl] at ham
        have hord := h.ord
        have hq := ordPairsA_app (pre := pre) (r := (al.i, true) :: r) (by rw [← hord]; exact hok)
        have hself : ∀ i ∈ Pd, i ≠ al.i := fun i hi e => by
          have := pairOkA (hq.2 _ (h.pdp i hi) (al.i, true) (List.mem_cons_self ..)) (by rw [e]; exact ho) ho
          exact this.ne e
        have hp : ∀ i ∈ Pd, ∀ oi, ops[i]? = some oi → al.d ∉ oi.looksAt ops ∧ oi.dst ≠ some al.d := fun i hi oi hoi => by
          have := pairOkA (hq.2 _ (h.pdp i hi) (al.i, true) (List.mem_cons_self ..)) hoi ho
          obtain ⟨d', h1, h2, h3⟩ := this.flt (.inr rfl)
          rw [hd] at h1
          cases h1
          exact ⟨h2, h3⟩
        have hnr : al.i ∉ r.map Prod.fst := fun hm => by
          obtain ⟨⟨j, c⟩, hq3, hji⟩ := List.mem_map.1 hm
          have h9 := (ordPairsA_app (pre := pre ++ [(al.i, true)]) (r := r) (by rw [List.append_assoc, List.singleton_append, ← hord]; exact hok)).2 (al.i, true) (by simp) _ hq3
          simp only at hji
          subst hji
          exact (pairOkA h9 ho ho).ne rfl
        refine NI.absorb hok ⟨oa, ho, hd, hN, hg, hop⟩ r (pre ++ [(al.i, true)]) Pd none ((al.d, .val (.pointer (some ⟨b, 0, none⟩))) :: E) (al.he b :: H) ⟨h.size, h.closed, fun i hi => ?_, by rw [hord]; simp, fun i hi => List.mem_append_left _ (h.pdp i hi), ham b, fun i hi => ?_, ?_, fun _ h => (by cases h), h.defers, h.tmps, fun t x ht hpd _ => ?_⟩
        · rw [h.part i hi]
          simp only [List.map_cons, List.mem_cons, ne_eq, not_false_eq_true, forall_const, not_true_eq_false, false_implies, and_true, reduceCtorEq]
          constructor
          · rintro ⟨h1 | h1 | h1, h2⟩
            · exact .inl h1
            · exact absurd h1 h2
            · exact .inr h1
          · rintro (h1 | h1)
            · exact ⟨.inl h1, hself i h1⟩
            · exact ⟨.inr (.inr h1), fun e => hnr (e ▸ h1)⟩
        · obtain ⟨oi, di, vi, h1, h2, h3, h4, h5⟩ := h.pend i hi
          obtain ⟨h6, h7⟩ := hp i hi oi h1
          refine ⟨oi, di, vi, h1, h2, h3, ?_, by rw [rst_skip h6]; exact h5⟩
          rw [look_skip (fun e => h7 (by rw [h2, e]))]; exact h4
        · refine h.rels.perm ?_
          show (al.he b :: (H ++ ([] ++ Hs))).Perm (H ++ ([al.he b] ++ Hs))
          exact (List.perm_middle (a := al.he b) (l₁ := H) (l₂ := Hs)).symm
        · by_cases hdt : al.d = t
          · subst hdt
            rw [look_here] at ht
            cases ht
            rw [(h.eal b rfl).2]; exact .val _
          · rw [look_skip hdt] at ht
            exact h.act t x ht hpd fun _ e => hdt e.symm
    · exact ⟨pre, _, Pd, ea, E, H, h, .inr ⟨m, r, rfl, fun e => absurd e hm⟩⟩
  | (j, false) :: r, pre, Pd, ea, E, H, h => by
    obtain ⟨o, d, v, ho, hd, hN, hop, ham⟩ := h.am
    have hord := h.ord
    have hq := ordPairsA_app (pre := pre) (r := (j, false) :: r) (by rw [← hord]; exact hok)
    have hself : d ∉ o.looksAt ops := by
      have := hq.1
      rw [ordPairsA] at this
      simp only [Bool.and_eq_true, ho, hd, Bool.false_or] at this
      simpa using this.1.1
    have hp : ∀ i ∈ Pd, ∀ oi, ops[i]? = some oi → d ∉ oi.looksAt ops ∧ oi.dst ≠ some d := fun i hi oi hoi => by
      have := pairOkA (hq.2 _ (h.pdp i hi) (j, false) (List.mem_cons_self ..)) hoi ho
      obtain ⟨d', h1, h2, h3⟩ := this.flt (.inl rfl)
      rw [hd] at h1
      cases h1
      exact ⟨h2, h3⟩
    refine NI.absorb hok hal r (pre ++ [(j, false)]) (j :: Pd) ea ((d, v) :: E) H ⟨h.size, h.closed, fun i hi => ?_, by rw [hord]; simp, fun i hi => ?_, ham, fun i hi => ?_, h.rels, fun b hb => ?_, h.defers, h.tmps, fun t x ht hpd hea => ?_⟩
    · rw [h.part i hi]
      simp only [List.map_cons, List.mem_cons]
      refine and_congr_left fun _ => ?_
      constructor
      · rintro (h | h | h)
        · exact .inl (.inr h)
        · exact .inl (.inl h)
        · exact .inr h
      · rintro ((h | h) | h)
        · exact .inr (.inl h)
        · exact .inl h
        · exact .inr (.inr h)
    · rcases List.mem_cons.1 hi with rfl | hi
      · simp
      · exact List.mem_append_left _ (h.pdp i hi)
    · rcases List.mem_cons.1 hi with rfl | hi
      · exact ⟨o, d, v, ho, hd, hN, look_here, by rw [rst_skip hself]; exact hop⟩
      · obtain ⟨oi, di, vi, h1, h2, h3, h4, h5⟩ := h.pend i hi
        obtain ⟨h6, h7⟩ := hp i hi oi h1
        refine ⟨oi, di, vi, h1, h2, h3, ?_, by rw [rst_skip h6]; exact h5⟩
        rw [look_skip (fun e => h7 (by rw [h2, e]))]; exact h4
    · obtain ⟨h1, h2⟩ := h.eal b hb
      rcases List.mem_cons.1 h1 with h1 | h1
      · cases h1
      · exact ⟨h1, h2⟩
    · have hne : d ≠ t := fun e => hpd j (List.mem_cons_self ..) o ho (by rw [hd, e])
      rw [look_skip hne] at ht
      exact h.act t x ht (fun i hi => hpd i (List.mem_cons_of_mem _ hi)) hea

theorem NI.reads {listed : Array Bool} {A : Act} {W : World} {R : Nat → Prop} {pre ms : List (Nat × Bool)} {Pd : List Nat} {ea : Option Nat} {E : Env} {H : List HE} (hok : ordPairsA ops al.i (ancs ops.toList []) ord = true) (hal : al.ok P Γ.N ops) (h : NI P Γ ops al Hs K ord listed A W pre ms Pd ea E H R)
    {i : Nat} {b : Bool} {o : Oper} (ho : ops[i]? = some o) (hdeps : ∀ e ∈ o.after, Region.binds .any e = true → listed.getD e.on false = true) (hi : (i, b) ∈ pre ∧ i ∈ Pd ∧ b = false ∨ ∃ r, ms = (i, b) :: r ∧ i ≠ al.i) : RelA Γ.N R W (rst E (o.looksAt ops)) A := by
  refine ⟨h.defers, h.tmps, fun t v ht => ?_⟩
  obtain ⟨htl, ht⟩ := look_rst ht
  obtain ⟨oa, hoa, hda, -⟩ := hal
  have hnal : ea ≠ none → t ≠ al.d := fun hea e => by
    obtain ⟨b', hb'⟩ := Option.ne_none_iff_exists'.1 hea
    have hmem := (h.eal b' hb').1
    have key : ordPairA ops al.i (ancs ops.toList []) i b al.i true = true → False := fun hp => by
      obtain ⟨d', h1, h2, -⟩ := (pairOkA hp ho hoa).flt (.inr rfl)
      rw [hda] at h1; cases h1
      exact h2 (e ▸ htl)
    rcases hi with ⟨hip, -, -⟩ | ⟨r, hms, hne⟩
    · exact key ((ordPairsA_app (pre := pre) (r := ms) (by rw [← h.ord]; exact hok)).2 _ hip _ hmem)
    · rw [hms] at hmem
      rcases List.mem_cons.1 hmem with h9 | h9
      · cases h9; exact hne rfl
      · exact key ((ordPairsA_app (pre := pre ++ [(i, b)]) (r := r) (by have := h.ord; rw [List.append_assoc, List.singleton_append, ← hms, ← this]; exact hok)).2 (i, b) (by simp) _ h9)
  refine h.act t v ht (fun k hk ok hok' hdk => ?_) hnal
  have hkp := h.pdp k hk
  have hkn : ea ≠ none → k ≠ al.i := fun hea e => by
    obtain ⟨b', hb'⟩ := Option.ne_none_iff_exists'.1 hea
    have hmem := (h.eal b' hb').1
    exact (pairOkA ((ordPairsA_app (pre := pre) (r := ms) (by rw [← h.ord]; exact hok)).2 _ hkp _ hmem) hok' hoa).ne e
  have hkf : listed.getD k false = false := (h.part k (Array.getElem?_eq_some_iff.1 hok').1).2 ⟨.inl hk, hkn⟩
  have direct : ordPairA ops al.i (ancs ops.toList []) k false i b = true → False := fun hp => by
    obtain ⟨e, he, hb, hon⟩ := (pairOkA hp hok' ho).reads t hdk htl
    have := hdeps e he hb
    rw [hon, hkf] at this; cases this
  rcases hi with ⟨hip, hiP, rfl⟩ | ⟨r, hms, -⟩
  · -- both ahead
    obtain ⟨p1, p2, hp12⟩ := List.append_of_mem hkp
    have hord := h.ord
    rw [hp12, List.append_assoc] at hord
    rw [hp12] at hip
    rcases List.mem_append.1 hip with hip | hip
    · -- i ahead of k
      have hq := ordPairsA_app (pre := p1) (by rw [← hord]; exact hok)
      have := pairOkA (hq.2 _ hip (k, false) (List.mem_cons_self ..)) ho hok'
      obtain ⟨d', h1, h2, -⟩ := this.flt (.inl rfl)
      rw [hdk] at h1; cases h1
      exact h2 htl
    · rcases List.mem_cons.1 hip with he | hip
      · cases he
        -- itself
        have hq := (ordPairsA_app (pre := p1) (by rw [← hord]; exact hok)).1
        rw [List.cons_append, ordPairsA] at hq
        simp only [Bool.and_eq_true] at hq
        obtain rfl : o = ok := by rw [ho] at hok'; exact Option.some.inj hok'
        have := hq.1.1
        rw [ho] at this
        simp only [hdk, Bool.false_or] at this
        simp at this
        exact this htl
      · rw [show p1 ++ ((k, false) :: p2 ++ ms) = (p1 ++ [(k, false)]) ++ (p2 ++ ms) by simp] at hord
        have hq := ordPairsA_app (pre := p1 ++ [(k, false)]) (by rw [← hord]; exact hok)
        exact direct (hq.2 (k, false) (by simp) (i, false) (List.mem_append_left _ hip))
  · have hq := ordPairsA_app (pre := pre) (r := ms) (by rw [← h.ord]; exact hok)
    exact direct (hq.2 _ hkp (i, b) (by rw [hms]; exact List.mem_cons_self ..))

/-! One operation. -/
theorem AN.op {i d : Nat} {r : List (Nat × Bool)} {E : Env} {H : List HE} {o : Oper} {v : AV} (ho : ops[i]? = some o) (h : OpW P N o (rst E (o.looksAt ops)) Hs (Is v)) (hw : wantedIs ops (rst E (o.looksAt ops)) o = some true) (hd : o.dst = some d) (hN : Nat.ble (d + 1) N = true) (k : AN P N ops al Hs K r ((d, v) :: E) H) :
    AN P N ops al Hs K ((i, false) :: r) E H := ⟨o, d, v, ho, hd, Nat.le_of_ble_eq_true hN, .run hw h, k⟩
theorem AN.opG {i d : Nat} {r : List (Nat × Bool)} {E : Env} {H : List HE} {o : Oper} {c : Bool} {v : AV} (ho : ops[i]? = some o) (hw : guardIs ops (rst E (o.looksAt ops)) o = some c) (hd : o.dst = some d) (hN : Nat.ble (d + 1) N = true) (h : c = true → OpW P N o (rst E (o.looksAt ops)) Hs (Is v)) (k : AN P N ops al Hs K r ((d, .opt c v) :: E) H) :
    AN P N ops al Hs K ((i, false) :: r) E H := ⟨o, d, _, ho, hd, Nat.le_of_ble_eq_true hN, .opt hw h, k⟩
theorem AN.no {i d : Nat} {r : List (Nat × Bool)} {E : Env} {H : List HE} {o : Oper} (ho : ops[i]? = some o) (hw : wantedIs ops (rst E (o.looksAt ops)) o = some false) (hd : o.dst = some d) (hN : Nat.ble (d + 1) N = true) (k : AN P N ops al Hs K r ((d, .val undef) :: E) H) :
    AN P N ops al Hs K ((i, false) :: r) E H := ⟨o, d, _, ho, hd, Nat.le_of_ble_eq_true hN, .no hw, k⟩
theorem AN.main {i : Nat} {r : List (Nat × Bool)} {E : Env} {H : List HE} (o : Oper) (ho : ops[i]? = some o) (hne : Nat.beq i al.i = false) (h : ∀ w0 R0, AO ⟨w0, footOf H, R0, N⟩ P ops (QS ⟨w0, footOf H, R0, N⟩ o.dst (fun v H' => AN P N ops al Hs K r (putE o.dst v E) H')) [o] (rst E (o.looksAt ops)) H) :
    AN P N ops al Hs K ((i, true) :: r) E H := by rw [AN, if_neg (Nat.ne_of_beq_eq_false hne)]; exact ⟨o, ho, h⟩
theorem AN.box {i : Nat} {r : List (Nat × Bool)} {E : Env} {H : List HE} (he : i = al.i) (k : ∀ b, AN P N ops al Hs K r ((al.d, .val (.pointer (some ⟨b, 0, none⟩))) :: E) (al.he b :: H)) : AN P N ops al Hs K ((i, true) :: r) E H := by rw [AN, if_pos he]; exact k
theorem AN.nil {E : Env} {H : List HE} (h : K E H) : AN P N ops al Hs K [] E H := h
end
end Go.Proofs.Ytlcoanbdaephiaa.A

namespace Go.Proofs.Ytlcoanbdaephiaa.A
open Go.RowKit L
set_option linter.unusedVariables false
set_option linter.unusedSimpArgs false
section
variable {Γ : Cx} {P : Program} {Q : Exit → Act → World → Prop} {E : Env} {H : List HE} {N : Nat} {o : Oper} {ops : Array Oper} {rest : List Oper}
end
end Go.Proofs.Ytlcoanbdaephiaa.A

namespace Go.Proofs.Ytlcoanbdaephiaa.A
open Go.RowKit L
open Go.Maps (Keyed)
set_option linter.unusedVariables false
set_option linter.unusedSimpArgs false

abbrev Ents := List (Lit × Lit)
def dents (M : Ents) : List (Lit × DataW Unit) := M.map fun p => (p.1, DataW.lit p.2)
def OwnM (P : Program) (k e : TypeId) (b : Nat) (M : Ents) (W : World) : Prop := ∃ n l, W.ownsMap P k (plainElem (H := Unit) P e) b n (.map l) ∧ l.Perm (dents M)
def mapHE (P : Program) (k e : TypeId) (b : Nat) (M : Ents) : HE := .prd (fun c => c = b) (OwnM P k e b M)

def mHas (M : Ents) (k : Lit) : Bool := M.any fun p => p.1.sameKey k
def mGet (M : Ents) (k z : Lit) : Lit := match M.find? (fun p => p.1.sameKey k) with | some p => p.2 | none => z
def mDel (M : Ents) (k : Lit) : Ents := M.filter fun p => !p.1.sameKey k
def mPut (M : Ents) (k v : Lit) : Ents := (k, v) :: mDel M k

theorem OwnM.same {P : Program} {k e : TypeId} {b : Nat} {M : Ents} {W W' : World} (h : OwnM P k e b M W) (hb : W'.heap[b]? = W.heap[b]?) : OwnM P k e b M W' := by
  obtain ⟨n, l, ⟨es, clock, h1, h2⟩, h3⟩ := h
  exact ⟨n, l, ⟨es, clock, hb.trans h1, h2⟩, h3⟩
theorem mapHE_ok {P : Program} {k e : TypeId} {b : Nat} {M : Ents} {R : Nat → Prop} {W : World} (h : OwnM P k e b M W) : (mapHE P k e b M).ok R W := by
  refine ⟨h, fun W' _ hf => h.same (hf b rfl), fun c hc => ?_⟩
  subst hc
  obtain ⟨n, l, h1, _⟩ := h
  exact h1.lt

section
variable {P : Program} {k e : TypeId} {b : Nat} {M : Ents} {W : World}

theorem OwnM.size (h : OwnM P k e b M W) : ∃ l, W.ownsMap P k (plainElem (H := Unit) P e) b M.length (.map l) ∧ l.Perm (dents M) := by
  obtain ⟨n, l, ⟨es, clock, h1, h2, h3, h4⟩, h5⟩ := h
  have e1 : es.size = M.length := by
    have h6 := congrArg Maps.size h4
    simp [Maps.size, length_sorted] at h6
    rw [← h6, h5.length_eq]; simp [dents]
  exact ⟨l, ⟨es, clock, h1, h2, by omega, h4⟩, h5⟩
theorem OwnM.apart (h : OwnM P k e b M W) (K : Keyed P k) : (dents M).Pairwise (fun p q => p.1 ≠ q.1) := by
  obtain ⟨n, l, h1, h2⟩ := h
  obtain ⟨es, he, hp⟩ := h1.tidy K
  cases he
  exact (h2.pairwise_iff (fun {_ _} hne => Ne.symm hne)).1 hp
theorem dents_has {l : List (Lit × DataW Unit)} (hp : l.Perm (dents M)) (kl : Lit) : Maps.has (.map l) kl = mHas M kl := by
  rw [Maps.has_eq, mHas, hp.any_eq]
  simp [dents, List.any_map, Function.comp_def]
theorem dents_get {l : List (Lit × DataW Unit)} (hp : l.Perm (dents M)) (hap : (dents M).Pairwise (fun p q => p.1 ≠ q.1)) {kl z : Lit} (hk : WideAt.IsKeyLit kl) : (DataW.map l).atKey kl (.lit z) = .lit (mGet M kl z) := by
  have hal : l.Pairwise (fun p q => p.1 ≠ q.1) := (hp.symm.pairwise_iff (fun {_ _} hne => Ne.symm hne)).1 hap
  unfold mGet
  cases hf : M.find? (fun p => p.1.sameKey kl) with
  | some p =>
    have h1 := List.mem_of_find?_eq_some hf
    have h2 := List.find?_some hf
    have h3 : p.1 = kl := (WideAt.sameKey_iff hk).1 h2
    have h4 : (kl, DataW.lit p.2) ∈ l := hp.mem_iff.2 (List.mem_map.2 ⟨p, h1, by rw [h3]⟩)
    exact WideAt.atKey_mem (.lit z) hk hal h4
  | none =>
    have h0 := List.find?_eq_none.1 hf
    have h1 : l.find? (fun p => p.1.sameKey kl) = none := List.find?_eq_none.2 fun p hpl => by
      obtain ⟨q, hq, rfl⟩ := List.mem_map.1 (hp.mem_iff.1 hpl)
      exact h0 q hq
    simp only [DataW.atKey, h1]
theorem dents_del {l : List (Lit × DataW Unit)} (hp : l.Perm (dents M)) (kl : Lit) : (l.filter fun p => !p.1.sameKey kl).Perm (dents (mDel M kl)) := by
  have := hp.filter (fun p => !p.1.sameKey kl)
  refine this.trans (List.Perm.of_eq ?_)
  simp [dents, mDel, List.filter_map, Function.comp_def]
theorem insert_permD {x : Lit × DataW Unit} : ∀ l : List (Lit × DataW Unit), (DataW.insert x l).Perm (x :: l)
  | [] => .refl _
  | y :: r => by
    unfold DataW.insert
    split
    · exact .refl _
    · exact ((insert_permD r).cons y).trans (.swap ..)

theorem OwnM.made (W : World) (P : Program) (k e : TypeId) : OwnM P k e W.heap.size [] (W.alloc (.map #[] 0)) := ⟨0, [], World.ownsMap_made W P k _, .refl _⟩

theorem plainInv {v : Value} {d : Lit} {ps : List MemPlace} (h : plainElem (H := Unit) P e v = some (.lit d, ps)) : (∃ c, d = .bool c ∧ v = .bool c) ∨ (∃ q c, d = .int q c ∧ v = .int q c ∧ P.underlying e = some (.int q)) ∨ ∃ s, d = .string s := by
  unfold plainElem at h
  split at h
  · cases h; exact .inl ⟨_, rfl, rfl⟩
  · rename_i he
    split at h
    · rename_i hc
      obtain ⟨rfl, _⟩ := hc
      cases h; exact .inr (.inl ⟨_, _, rfl, rfl, he⟩)
    · cases h
  · split at h
    · cases h; exact .inr (.inr ⟨_, rfl⟩)
    · cases h
  · cases h
end

/-- What a key reads as, whatever the world. -/
def KeyA (P : Program) (k : TypeId) (x : AV) (kl : Lit) : Prop := ∀ R W v, RelV R W x v → keyOf P k v = some kl
theorem KeyA.int {P : Program} {k : TypeId} {q : IntKind} (hk : P.underlying k = some (.int q)) {a : Int} (hw : (Lit.int q a).wf = true) : KeyA P k (.val (.int q a)) (.int q a) := fun R W v h => by
  rw [h.val_inv]; exact Maps.keyOf_int_mk hk hw
class KeyT (P : Program) (k : Nat) : Prop where
  ax : Keyed P k
class ZeroT (P : Program) (e : Nat) (z : outParam Value) : Prop where
  ax : ∀ W, (zeroValue e).run P W = .ok z W
def mBool : Lit → Bool
  | .bool c => c
  | _ => false
def mInt : Lit → Int
  | .int _ c => c
  | _ => 0
theorem wfI64 {a : Int} (h : -9223372036854775808 ≤ a ∧ a ≤ 9223372036854775807) : (Lit.int .i64 a).wf = true := by
  simpa [Lit.wf, IntKind.min, IntKind.max, IntKind.signed, IntKind.bits] using h
def key2 (a b : Int) : Lit := .string (keyBytes [.int .i64 a, .int .i64 b])

section
variable {Γ : Cx} {P : Program} {Q : Exit → Act → World → Prop} {E : Env} {H : List HE} {N : Nat} {o : Oper} {ops : Array Oper} {rest : List Oper} {k e : TypeId}

def NewMap (P : Program) (k e : TypeId) : AV → List HE → Prop := fun v Hn => ∃ b, v = .val (.map (some b)) ∧ Hn = [mapHE P k e b []]
theorem O.makeMap {t : TypeId} [hd : TyD P t (.map k e)] (ho : o.op = .makeMap t none) : OpW P N o E H (NewMap P k e) := fun R a W h1 h2 h3 ha => by
  unfold Oper.wp
  have hr : (execOp a.eval o).run P W = .ok (.value (.map (some W.heap.size))) (W.alloc (.map #[] 0)) := by
    simp [execOp, ho, run_makeMap, Result.andThen]
  rw [hr]
  have hs : ∀ b, R b → (W.alloc (.map #[] 0)).heap[b]? = W.heap[b]? := fun b hb => Below.heap_alloc W _ b (h1 b hb)
  refine ⟨_, _, _, R, rfl, ⟨W.heap.size, rfl, rfl⟩, Mods.alloc (Mods.refl _ _) _, fun _ h => h, fun _ h => .inl h, .val _, ?_, by simp⟩
  intro e' he
  obtain rfl : e' = _ := by simpa using he
  refine ⟨mapHE_ok (OwnM.made W P k e), fun b hb => ?_⟩
  cases hb
  exact ⟨Nat.le_refl _, fun hh => by have := h1 _ hh; omega⟩

/-- v, ok := m[k], elements int. -/
theorem O.lookOkI {t : TypeId} {m x : Operand} {b : Nat} {M : Ents} {kv : AV} {kl : Lit} {q : IntKind} [hd : TyD P t (.map k e)] [he : TyD P e (.int q)] (ho : o.op = .lookup t m x true) (hm : ev E m = some (.val (.map (some b)))) (hx : ev E x = some kv) [K : KeyT P k] [hz : ZeroT P e (.int q 0)] (hM : mapHE P k e b M ∈ H) (hk : KeyA P k kv kl) :
    OpW P N o E H (Is (.tup [.val (.int q (mInt (mGet M kl (.int q 0)))), .val (.bool (mHas M kl))])) := .of_run fun R a W h1 h2 ha => by
  have hown := (h2 _ hM).1
  obtain ⟨l, hw, hp⟩ := hown.size
  have hkey := hk R W _ (ha.ev hx)
  obtain ⟨v, ps, hrun, hv⟩ := hw.look_ok K.ax hd.ax (hz.ax W) (plainElem_int he.ax (by cases q <;> decide)) hkey
  rw [dents_get hp (hown.apart K.ax) (K.ax.key hkey)] at hv
  rw [dents_has hp] at hrun
  refine ⟨_, by simp only [execOp, ho, (ha.ev hm).val_inv, hrun, Sem.run_bind, Result.andThen_ok, Sem.run_pure, Result.andThen]; rfl, ?_⟩
  rcases plainInv hv with ⟨c, h3, rfl⟩ | ⟨q', c, h3, rfl, h4⟩ | ⟨s, h3⟩
  · unfold plainElem at hv; rw [he.ax] at hv; cases hv
  · rw [he.ax] at h4; cases h4
    rw [h3]
    exact (RelL.cons (.val _) (RelL.cons (.val _) RelL.nil)).toTup
  · rw [h3] at hv
    unfold plainElem at hv
    rw [he.ax] at hv
    cases v <;> simp at hv

/-- len(m). -/
theorem O.lenM {x : Operand} {t : TypeId} {b : Nat} {M : Ents} [hd : TyD P t (.map k e)] (ho : o.op = .call { callee := .builtin .len, args := #[x], argTypes := #[t] }) (hx : ev E x = some (.val (.map (some b)))) (hM : mapHE P k e b M ∈ H) : OpW P N o E H (Is (.val (.int .i64 M.length))) := .of_run fun R a W h1 h2 ha => by
  have hown := (h2 _ hM).1
  obtain ⟨l, hw, hp⟩ := hown.size
  have h3 := hw.len hd.ax o.type
  have h4 : Maps.size (DataW.map l) = M.length := by rw [Maps.size_eq, hp.length_eq]; simp [dents]
  rw [h4] at h3
  exact ⟨_, by simp [execOp, ho, resolve, invoke, builtin, (ha.ev hx).val_inv, h3, Result.andThen], .val _⟩

theorem mods_turned {W W' : World} {b : Nat} (h : W.mapTurned W' b) : Mods (fun c => c = b) W W' := by
  exact Mods.grown (Mods.refl _ _) h.grown (fun k hk _ => by cases hk; rfl)
/-- m[k] = v. -/
theorem AO.mapPut {t : TypeId} {m x v : Operand} {b i : Nat} {M : Ents} {kv : AV} {vv : Value} {kl vl : Lit} {H' : List HE} [hd : TyD P t (.map k e)] [K : KeyT P k] (ho : o.op = .mapUpdate t m x v) (hgd : o.guard = none) (hdst : o.dst = none) (hm : ev E m = some (.val (.map (some b)))) (hx : ev E x = some kv) (hv : ev E v = some (.val vv)) (hi : H[i]? = some (mapHE P k e b M)) (hk : KeyA P k kv kl) (hp : plainElem (H := Unit) P e vv = some (.lit vl, [])) (hn : M.length < maxLen)
    (hH : H.set i (mapHE P k e b (mPut M kl vl)) = H') (next : AO Γ P ops Q rest E H') : AO Γ P ops Q (o :: rest) E H := fun R a W hs ha => by
  have hown := (hs.ok _ (List.mem_of_getElem? hi)).1
  obtain ⟨l, hw, hpm⟩ := hown.size
  have hkey := hk R W _ (ha.ev hx)
  obtain ⟨W', hrun, hw', ht⟩ := hw.store K.ax hd.ax hn hkey hp
  unfold wpList
  rw [if_pos (by unfold Region.wanted; rw [hgd])]
  refine .inl ?_
  unfold Oper.wp
  have hex : (execOp a.eval o).run P W = .ok .skip W' := by simp [execOp, ho, (ha.ev hm).val_inv, (ha.ev hv).val_inv, hrun, Result.andThen]
  rw [hex]
  show wpList P ops Q rest (a.put o.dst undef) _
  rw [hdst]
  have hmods := mods_turned ht
  subst hH
  have hR : ∀ c, R c → W'.heap[c]? = W.heap[c]? := fun c hc => hmods.block c (hs.rlt c hc) fun hh => (hs.own _ (List.mem_of_getElem? hi) c hh).2 hc
  refine next R a W' (hs.setEntry hi hmods (fun c hc => .inl hc) (mapHE_ok ⟨_, _, hw', ?_⟩)) (ha.keep hR)
  exact (insert_permD _).trans ((dents_del hpm kl).cons _)
/-- delete(m, k). -/
theorem AO.mapDel {t kt : TypeId} {m x : Operand} {b i : Nat} {M : Ents} {kv : AV} {kl : Lit} {H' : List HE} [hd : TyD P t (.map k e)] [K : KeyT P k] (ho : o.op = .call { callee := .builtin .delete, args := #[m, x], argTypes := #[t, kt] }) (hkt : kt = k) (hgd : o.guard = none) {d : Option Tmp} (hdst : o.dst = d) (hdn : d = none) (hm : ev E m = some (.val (.map (some b)))) (hx : ev E x = some kv) (hi : H[i]? = some (mapHE P k e b M)) (hk : KeyA P k kv kl)
    (hH : H.set i (mapHE P k e b (mDel M kl)) = H') (next : AO Γ P ops Q rest E H') : AO Γ P ops Q (o :: rest) E H := fun R a W hs ha => by
  subst hkt
  subst hdn
  have hown := (hs.ok _ (List.mem_of_getElem? hi)).1
  obtain ⟨l, hw, hpm⟩ := hown.size
  have hkey := hk R W _ (ha.ev hx)
  obtain ⟨W', hrun, hw', ht⟩ := hw.drop K.ax hd.ax hkey o.type
  unfold wpList
  rw [if_pos (by unfold Region.wanted; rw [hgd])]
  refine .inl ?_
  unfold Oper.wp
  have hex : (execOp a.eval o).run P W = .ok (.value (.tuple #[])) W' := by simp [execOp, ho, resolve, invoke, builtin, (ha.ev hm).val_inv, hrun, Result.andThen]
  rw [hex]
  show wpList P ops Q rest (a.put o.dst _) _
  rw [hdst]
  have hmods := mods_turned ht
  subst hH
  have hR : ∀ c, R c → W'.heap[c]? = W.heap[c]? := fun c hc => hmods.block c (hs.rlt c hc) fun hh => (hs.own _ (List.mem_of_getElem? hi) c hh).2 hc
  refine next R a W' (hs.setEntry hi hmods (fun c hc => .inl hc) (mapHE_ok ⟨_, _, hw', ?_⟩)) (ha.keep hR)
  exact dents_del hpm kl
end
end Go.Proofs.Ytlcoanbdaephiaa.A

namespace Go.Proofs.Ytlcoanbdaephiaa.Ob
open Go.RowKit L A Dk
set_option linter.unusedVariables false
set_option linter.unusedSimpArgs false

structure VW (ws : List Watch) : Prop where
  len : ws.length ≤ 16
  sound : ∀ w ∈ ws, soundW w = true
  apart : ws.Pairwise fun v w => meetsW v w = false
theorem validW_iff (ws : List Watch) : validW ws = true ↔ VW ws := by
  unfold validW okTo okAt
  simp only [Bool.and_eq_true, decide_eq_true_eq, List.all_eq_true, List.mem_range, Bool.not_eq_true']
  constructor
  · rintro ⟨h1, h2⟩
    refine ⟨h1, fun w hw => ?_, ?_⟩
    · obtain ⟨i, hi, rfl⟩ := List.getElem_of_mem hw
      have := (h2 i hi).1
      simpa [wat, hi] using this
    · rw [List.pairwise_iff_getElem]
      intro i j hi hj hij
      have := (h2 j hj).2 i hij
      simpa [wat, hi, hj] using this
  · rintro ⟨h1, h2, h3⟩
    refine ⟨h1, fun i hi => ⟨?_, fun j hj => ?_⟩⟩
    · have := h2 _ (List.getElem_mem hi)
      simpa [wat, hi] using this
    · rw [List.pairwise_iff_getElem] at h3
      have := h3 j i (by omega) hi hj
      simpa [wat, hi, show j < ws.length by omega] using this
theorem VW.filter {ws : List Watch} (h : VW ws) (K : Watch → Bool) : VW (ws.filter K) :=
  ⟨Nat.le_trans (List.length_filter_le K ws) h.len, fun w hw => h.sound w (List.mem_filter.1 hw).1, h.apart.filter K⟩
def One (w : Watch) : Prop := ∃ t k : UInt8, w.tok = [t] ∧ w.key = [k] ∧ t.toNat < 5
structure Num (ws : List Watch) : Prop where
  v : VW ws
  one : ∀ w ∈ ws, One w
theorem Num.nil : Num [] := ⟨⟨by simp, by simp, .nil⟩, by simp⟩
theorem Num.valid {ws : List Watch} (h : Num ws) : validW ws = true := (validW_iff ws).2 h.v
theorem Num.small {ws : List Watch} (h : Num ws) : Small ws := ⟨h.v.len, fun w hw => by
  obtain ⟨t, k, h1, h2, _⟩ := h.one w hw
  rw [h1, h2]; exact ⟨rfl, rfl⟩⟩
theorem sound_bd {w : Watch} (h : soundW w = true) : (0 ≤ w.peer ∧ w.peer ≤ 65536) ∧ 0 ≤ w.seq ∧ w.seq < 16777216 := by
  unfold soundW soundB at h
  simp only [Bool.and_eq_true, decide_eq_true_eq] at h
  omega
theorem Num.seqOk {ws : List Watch} (h : Num ws) : SeqOk ws := fun w hw => (sound_bd (h.v.sound w hw)).2
theorem Num.filter {ws : List Watch} (h : Num ws) (K : Watch → Bool) : Num (ws.filter K) := ⟨h.v.filter K, fun w hw => h.one w (List.mem_filter.1 hw).1⟩
theorem nextS_bd {s : Int} (h : 0 ≤ s ∧ s < 16777216) : nextS s = (s + 1) % 16777216 ∧ 0 ≤ nextS s ∧ nextS s < 16777216 := by
  have e : nextS s = (s + 1) % 16777216 := by unfold nextS; rw [Int.tmod_eq_emod_of_nonneg (by omega)]
  rw [e]; exact ⟨rfl, by omega, by omega⟩
theorem tell_seq {key : List UInt8} {w : Watch} (h : 0 ≤ w.seq ∧ w.seq < 16777216) : 0 ≤ (tell key w).seq ∧ (tell key w).seq < 16777216 := by
  unfold tell
  split
  · exact (nextS_bd h).2
  · exact h
theorem sound_of {v w : Watch} (h : soundW w = true) (h1 : v.tok = w.tok ∧ v.key = w.key ∧ v.peer = w.peer ∧ v.since = w.since) (h2 : 0 ≤ v.seq ∧ v.seq < 16777216) : soundW v = true := by
  unfold soundW soundB at h ⊢
  rw [h1.1, h1.2.1, h1.2.2.1, h1.2.2.2]
  simp only [Bool.and_eq_true, decide_eq_true_eq] at h ⊢
  omega
theorem meets_of {v v' w w' : Watch} (h1 : v.tok = v'.tok ∧ v.key = v'.key ∧ v.peer = v'.peer) (h2 : w.tok = w'.tok ∧ w.key = w'.key ∧ w.peer = w'.peer) : meetsW v w = meetsW v' w' := by
  unfold meetsW
  rw [h1.1, h1.2.1, h1.2.2, h2.1, h2.2.1, h2.2.2]
theorem Num.tell {ws : List Watch} (h : Num ws) (key : List UInt8) : Num (notW ws key) := by
  refine ⟨⟨by rw [notW, List.length_map]; exact h.v.len, fun w hw => ?_, ?_⟩, fun w hw => ?_⟩
  · obtain ⟨v, hv, rfl⟩ := List.mem_map.1 hw
    have := tell_tok key v
    exact sound_of (h.v.sound v hv) this (tell_seq (sound_bd (h.v.sound v hv)).2)
  · rw [notW, List.pairwise_map]
    refine h.v.apart.imp fun {a b} hab => ?_
    rw [meets_of (v' := a) (w' := b)]
    · exact hab
    · have := tell_tok key a; exact ⟨this.1, this.2.1, this.2.2.1⟩
    · have := tell_tok key b; exact ⟨this.1, this.2.1, this.2.2.1⟩
  · obtain ⟨v, hv, rfl⟩ := List.mem_map.1 hw
    have := tell_tok key v
    unfold One
    rw [this.1, this.2.1]
    exact h.one v hv
theorem Num.reg {ws : List Watch} (h : Num ws) {p now : Int} {t k : UInt8} (ht : t.toNat < 5) : Num (regW ws p [t] [k] now).1 := by
  unfold regW
  split
  · exact .nil
  · rename_i hs
    have hso : soundB p [t] [k] 0 now = true := by
      cases hb : soundB p [t] [k] 0 now with
      | true => rfl
      | false => rw [hb] at hs; simp at hs
    split
    · exact .nil
    · refine ⟨⟨by simp only [List.length_append, List.length_cons, List.length_nil]; omega, fun w hw => ?_, ?_⟩, fun w hw => ?_⟩
      · rcases List.mem_append.1 hw with hw | hw
        · exact h.v.sound w (List.mem_filter.1 hw).1
        · obtain rfl : w = _ := by simpa using hw
          exact hso
      · rw [List.pairwise_append]
        refine ⟨h.v.apart.filter _, by simp, fun a ha b hb => ?_⟩
        obtain rfl : b = _ := by simpa using hb
        have := (List.mem_filter.1 ha).2
        simpa [meetsW] using this
      · rcases List.mem_append.1 hw with hw | hw
        · exact h.one w (List.mem_filter.1 hw).1
        · obtain rfl : w = _ := by simpa using hw
          exact ⟨t, k, rfl, rfl, ht⟩
theorem Num.set {L : List Watch} (h : Num L) {i : Nat} {s : Int} (hi : i < L.length) (hs : 0 ≤ s ∧ s < 16777216) : Num (L.set i { wat L i with seq := s }) := by
  have hw0 : wat L i = L[i] := by simp [wat, hi]
  refine ⟨⟨by rw [List.length_set]; exact h.v.len, fun w hw => ?_, ?_⟩, fun w hw => ?_⟩
  · rcases List.mem_or_eq_of_mem_set hw with hw | rfl
    · exact h.v.sound w hw
    · rw [hw0]
      exact sound_of (v := { L[i] with seq := s }) (h.v.sound _ (List.getElem_mem hi)) ⟨rfl, rfl, rfl, rfl⟩ hs
  · have hp := h.v.apart
    rw [List.pairwise_iff_getElem] at hp ⊢
    intro a b ha hb hab
    rw [List.length_set] at ha hb
    rw [meets_of (v' := L[a]) (w' := L[b])]
    · exact hp a b ha hb hab
    · rw [List.getElem_set]; split
      · rename_i e; subst e; rw [hw0]; exact ⟨rfl, rfl, rfl⟩
      · exact ⟨rfl, rfl, rfl⟩
    · rw [List.getElem_set]; split
      · rename_i e; subst e; rw [hw0]; exact ⟨rfl, rfl, rfl⟩
      · exact ⟨rfl, rfl, rfl⟩
  · rcases List.mem_or_eq_of_mem_set hw with hw | rfl
    · exact h.one w hw
    · rw [hw0]
      exact h.one L[i] (List.getElem_mem hi)
theorem seqV_bd (z : Int) : 0 ≤ seqV z ∧ seqV z < 16777216 := by unfold seqV; split <;> (try split) <;> (try split) <;> omega
theorem sLoop_num (l : List Int) {L : List Watch} (h : Num L) (a : Nat) : ∀ i, i ≤ L.length → Num (sLoop l L a i).1
  | 0, _ => h
  | i + 1, hi => (sLoop_num l h a i (by omega)).set (by rw [sLoop_len]; omega) (seqV_bd _)
theorem u8_small {z : Int} (h : 0 ≤ z ∧ z < 5) : (u8 z).toNat < 5 := by
  have := u8_toNat z
  omega
theorem bLoop_num (l : List Int) : ∀ k {L : List Watch} {a : Nat}, Num L → Num (bLoop l k L a).1
  | 0, L, a, h => h
  | k + 1, L, a, h => by
    refine bLoop_num l k ?_
    split
    · exact h.reg (u8_small (nxt_in l _ (by omega)))
    · exact h
theorem regOf_num (l : List Int) (a : Nat) : Num (regOf l a).1 := sLoop_num l (bLoop_num l _ .nil) _ _ (Nat.le_refl _)

/-! ### The map -/
def tok0 (w : Watch) : Int := ((w.tok.getD 0 0).toNat : Int)
def kW (w : Watch) : Lit := key2 w.peer (tok0 w)
def entW (ws : List Watch) : Ents := ws.map fun w => (kW w, .int .i64 w.seq)
theorem arr2 : Go.WideMaps.ArrKey Try.prog 44 3 2 := ⟨Try.underlying44, by kernel_rfl, by kernel_rfl, by kernel_rfl⟩
instance : KeyT Try.prog 44 := ⟨Go.Maps.Keyed.of_law arr2.law⟩
instance : ZeroT Try.prog 3 (.int .i64 0) := ⟨fun W => by kernel_rfl⟩
theorem keyOf2 {a b : Int} (ha : (Lit.int .i64 a).wf = true) (hb : (Lit.int .i64 b).wf = true) : keyOf Try.prog 44 (.agg #[.int .i64 a, .int .i64 b]) = some (key2 a b) :=
  Go.WideMaps.keyOf_pair arr2 Try.underlying3 ⟨Try.prog.types.size - 1, by kernel_rfl⟩ ha hb
theorem keyA2 {a b : Int} (ha : (Lit.int .i64 a).wf = true) (hb : (Lit.int .i64 b).wf = true) : KeyA Try.prog 44 (.agg [.val (.int .i64 a), .val (.int .i64 b)]) (key2 a b) := fun R W v h => by
  obtain ⟨us, rfl, hr⟩ := h.agg_inv
  obtain ⟨u, r, rfl, h1, h2⟩ := hr.uncons
  obtain ⟨u', r', rfl, h3, h4⟩ := h2.uncons
  have : r' = [] := List.eq_nil_of_length_eq_zero h4.1
  subst this
  rw [h1.val_inv, h3.val_inv]
  exact keyOf2 ha hb
def In (z : Int) : Prop := -9223372036854775808 ≤ z ∧ z ≤ 9223372036854775807
theorem key2_inj {a b a' b' : Int} (ha : In a) (hb : In b) (ha' : In a') (hb' : In b') : key2 a b = key2 a' b' ↔ a = a' ∧ b = b' := by
  constructor
  · intro h
    have h1 := keyOf2 (wfI64 ha) (wfI64 hb)
    have h2 := keyOf2 (wfI64 ha') (wfI64 hb')
    rw [← h] at h2
    have := (Go.Maps.Keyed.of_law arr2.law).inj h1 h2
    simpa using this
  · rintro ⟨rfl, rfl⟩; rfl
theorem key2_same {a b a' b' : Int} (ha : In a) (hb : In b) (ha' : In a') (hb' : In b') : (key2 a b).sameKey (key2 a' b') = (a == a' && b == b') := by
  rw [Bool.eq_iff_iff, WideAt.sameKey_iff (by unfold key2; trivial), key2_inj ha hb ha' hb']
  simp
theorem kW_same {w : Watch} (h : soundW w = true) {p k : Int} (hp : In p) (hk : In k) : (kW w).sameKey (key2 p k) = (w.peer == p && tok0 w == k) := by
  have h1 := (sound_bd h).1
  have h2 : tok0 w ≤ 255 ∧ 0 ≤ tok0 w := by unfold tok0; have := (w.tok.getD 0 0).toNat_lt; omega
  exact key2_same ⟨by omega, by omega⟩ ⟨by omega, by omega⟩ hp hk

section
variable {M L : Ents}
theorem mHas_perm (h : M.Perm L) (k : Lit) : mHas M k = mHas L k := h.any_eq
theorem mDel_perm (h : M.Perm L) (k : Lit) : (mDel M k).Perm (mDel L k) := h.filter _
theorem mGet_mem (h : M.Perm L) (hd : L.Pairwise fun p q => p.1 ≠ q.1) {k v z : Lit} (hk : WideAt.IsKeyLit k) (hm : (k, v) ∈ L) : mGet M k z = v := by
  unfold mGet
  cases hf : M.find? (fun p => p.1.sameKey k) with
  | none =>
    have := List.find?_eq_none.1 hf (k, v) (h.mem_iff.2 hm)
    exact absurd (WideAt.sameKey_self hk) this
  | some p =>
    have h1 := h.mem_iff.1 (List.mem_of_find?_eq_some hf)
    have h2 := List.find?_some hf
    have h2 : p.1 = k := (WideAt.sameKey_iff hk).1 h2
    have hp : ∀ x ∈ L, ∀ y ∈ L, x.1 = y.1 → x = y := by
      intro x hx y hy he
      obtain ⟨i, hi, rfl⟩ := List.getElem_of_mem hx
      obtain ⟨j, hj, rfl⟩ := List.getElem_of_mem hy
      rw [List.pairwise_iff_getElem] at hd
      rcases Nat.lt_trichotomy i j with hlt | rfl | hgt
      · exact absurd he (hd i j hi hj hlt)
      · rfl
      · exact absurd he.symm (hd j i hj hi hgt)
    have := hp p h1 (k, v) hm h2
    rw [this]
theorem mPut_perm {X Y : Ents} {k v v0 : Lit} (hk : WideAt.IsKeyLit k) (h : M.Perm (X ++ (k, v0) :: Y)) (hd : (X ++ (k, v0) :: Y).Pairwise fun p q => p.1 ≠ q.1) : (mPut M k v).Perm (X ++ (k, v) :: Y) := by
  rw [List.pairwise_append] at hd
  obtain ⟨_, hd2, hd3⟩ := hd
  have e1 : mDel X k = X := List.filter_eq_self.2 fun p hp => by
    have := hd3 p hp (k, v0) (List.mem_cons_self ..)
    cases hb : p.1.sameKey k with
    | false => rfl
    | true => exact absurd ((WideAt.sameKey_iff hk).1 hb) this
  have e2 : mDel Y k = Y := List.filter_eq_self.2 fun p hp => by
    have := (List.pairwise_cons.1 hd2).1 p hp
    cases hb : p.1.sameKey k with
    | false => rfl
    | true => exact absurd ((WideAt.sameKey_iff hk).1 hb).symm this
  have h1 := mDel_perm h k
  have e3 : mDel (X ++ (k, v0) :: Y) k = X ++ Y := by
    show List.filter _ _ = _
    rw [List.filter_append, List.filter_cons]
    have hs : (!(k, v0).1.sameKey k) = false := by simp [WideAt.sameKey_self hk]
    rw [hs]
    show mDel X k ++ (if false = true then _ else mDel Y k) = _
    rw [e1, e2]; rfl
  rw [e3] at h1
  exact (h1.cons (k, v)).trans List.perm_middle.symm
theorem mPut_new {k v : Lit} (hk : WideAt.IsKeyLit k) (h : M.Perm L) (hn : ∀ p ∈ L, p.1 ≠ k) : (mPut M k v).Perm ((k, v) :: L) := by
  have h1 := mDel_perm h k
  have e2 : mDel L k = L := List.filter_eq_self.2 fun p hp => by
    cases hb : p.1.sameKey k with
    | false => rfl
    | true => exact absurd ((WideAt.sameKey_iff hk).1 hb) (hn p hp)
  rw [e2] at h1
  exact h1.cons _
end
theorem isKey2 (a b : Int) : WideAt.IsKeyLit (key2 a b) := by unfold key2; trivial
theorem In.of {z : Int} (h : 0 ≤ z ∧ z ≤ 65536) : In z := ⟨by omega, by omega⟩
theorem tok0_bd (w : Watch) : 0 ≤ tok0 w ∧ tok0 w ≤ 65536 := by unfold tok0; have := (w.tok.getD 0 0).toNat_lt; omega
theorem One.tok0 {w : Watch} (h : One w) {k : UInt8} : (w.tok == [k]) = (tok0 w == (k.toNat : Int)) := by
  obtain ⟨t, q, h1, _, _⟩ := h
  unfold Ob.tok0
  rw [h1, Bool.eq_iff_iff]
  simp only [beq_iff_eq, List.cons.injEq, and_true, List.getD_cons_zero]
  constructor
  · rintro rfl; rfl
  · intro h; exact UInt8.toNat_inj.1 (by omega)
theorem Num.keys {ws : List Watch} (h : Num ws) : (entW ws).Pairwise fun p q => p.1 ≠ q.1 := by
  rw [entW, List.pairwise_map]
  have h2 : ws.Pairwise fun a b => a ∈ ws ∧ b ∈ ws := by
    rw [List.pairwise_iff_getElem]; intro i j hi hj _; exact ⟨List.getElem_mem hi, List.getElem_mem hj⟩
  refine (h.v.apart.and h2).imp ?_
  rintro a b ⟨hab, ha, hb⟩ he
  have ha1 := (sound_bd (h.v.sound a ha)).1
  have hb1 := (sound_bd (h.v.sound b hb)).1
  have := (key2_inj (In.of ha1) (In.of (tok0_bd a)) (In.of hb1) (In.of (tok0_bd b))).1 he
  obtain ⟨t, q, h3, _, _⟩ := h.one a ha
  obtain ⟨t', q', h4, _, _⟩ := h.one b hb
  unfold meetsW meetsB at hab
  have e : t = t' := by
    have h5 := this.2
    unfold Ob.tok0 at h5
    rw [h3, h4] at h5
    simp only [List.getD_cons_zero] at h5; exact UInt8.toNat_inj.1 (by omega)
  rw [this.1, h3, h4, e] at hab
  simp at hab
theorem entW_del {ws : List Watch} (h : Num ws) {p k : Int} (hp : In p) (hk : In k) : mDel (entW ws) (key2 p k) = entW (ws.filter fun w => !(w.peer == p && tok0 w == k)) := by
  unfold mDel entW
  rw [List.filter_map]
  congr 1
  refine List.filter_congr fun w hw => ?_
  show (!(kW w).sameKey _) = _
  rw [kW_same (h.v.sound w hw) hp hk]
theorem entW_has {ws : List Watch} (h : Num ws) {p k : Int} (hp : In p) (hk : In k) : mHas (entW ws) (key2 p k) = ws.any fun w => w.peer == p && tok0 w == k := by
  unfold mHas entW
  rw [List.any_map]
  rw [Bool.eq_iff_iff, List.any_eq_true, List.any_eq_true]
  constructor
  · rintro ⟨w, hw, h1⟩; exact ⟨w, hw, by rw [← kW_same (h.v.sound w hw) hp hk]; exact h1⟩
  · rintro ⟨w, hw, h1⟩; exact ⟨w, hw, by rw [← kW_same (h.v.sound w hw) hp hk] at h1; exact h1⟩
theorem ent_len {M : Ents} {ws : List Watch} (h : M.Perm (entW ws)) : M.length = ws.length := by rw [h.length_eq]; simp [entW]
theorem kW_of {w : Watch} {t : UInt8} (h : w.tok = [t]) : kW w = key2 w.peer (t.toNat : Int) := by unfold kW tok0; rw [h]; rfl
/-- One more registration in the map. -/
theorem ent_step {ws : List Watch} (h : Num ws) {k : Nat} (hk : k < ws.length) {M : Ents} (hM : M.Perm (entW (ws.take k))) : (mPut M (kW (wat ws k)) (.int .i64 (wat ws k).seq)).Perm (entW (ws.take (k + 1))) := by
  have hw : wat ws k = ws[k] := by simp [wat, hk]
  have e : ws.take (k + 1) = ws.take k ++ [ws[k]] := by rw [List.take_add_one]; simp [hk]
  have hkeys : (entW (ws.take (k + 1))).Pairwise fun p q => p.1 ≠ q.1 := h.keys.sublist ((List.take_sublist _ _).map _)
  rw [e, entW, List.map_append] at hkeys ⊢
  rw [List.pairwise_append] at hkeys
  have hn : ∀ p ∈ entW (ws.take k), p.1 ≠ kW (wat ws k) := fun p hp => by
    rw [hw]
    exact hkeys.2.2 p hp _ (List.mem_singleton.2 rfl)
  refine (mPut_new (isKey2 _ _) hM hn).trans ?_
  rw [hw]
  exact (List.perm_append_comm (l₁ := [(kW ws[k], Lit.int .i64 ws[k].seq)]))
/-! forget -/
def forgetTo (ws : List Watch) (p : Int) (j : Nat) : List Watch := ws.filter fun w => !(w.peer == p && decide (tok0 w < (j : Int)))
theorem forget0 (ws : List Watch) (p : Int) : forgetTo ws p 0 = ws := List.filter_eq_self.2 fun w _ => by
  have := tok0_bd w
  simp; omega
theorem forget5 {ws : List Watch} (h : Num ws) (p : Int) : forgetTo ws p 5 = forgetW ws p := List.filter_congr fun w hw => by
  obtain ⟨t, k, h1, h2, h3⟩ := h.one w hw
  have : tok0 w < ((5 : Nat) : Int) := by unfold tok0; rw [h1]; simp only [List.getD_cons_zero]; omega
  rw [decide_eq_true this, Bool.and_true]; rfl
theorem forget_step {ws : List Watch} (h : Num ws) {p : Int} (hp : In p) {j : Nat} (hj : j < 5) {M : Ents} (hM : M.Perm (entW (forgetTo ws p j))) : (mDel M (key2 p (j : Int))).Perm (entW (forgetTo ws p (j + 1))) := by
  have h1 := mDel_perm hM (key2 p (j : Int))
  rw [show forgetTo ws p j = ws.filter _ from rfl, entW_del (h.filter _) hp ⟨by omega, by omega⟩] at h1
  refine h1.trans (List.Perm.of_eq (congrArg entW ?_))
  unfold forgetTo
  rw [List.filter_filter]
  refine List.filter_congr fun w hw => ?_
  rw [Bool.eq_iff_iff]
  simp only [Bool.and_eq_true, Bool.not_eq_true', Bool.and_eq_false_imp, beq_iff_eq, decide_eq_false_iff_not, beq_eq_false_iff_ne, ne_eq]
  constructor
  · rintro ⟨h1, h2⟩ h3; have := h1 h3; have := h2 h3; omega
  · intro h1; exact ⟨fun h3 => by have := h1 h3; omega, fun h3 => by have := h1 h3; omega⟩
/-! cancel -/
theorem cancel_eq {ws : List Watch} (h : Num ws) (p : Int) {k : Int} (hk : 0 ≤ k ∧ k < 5) : cancelW ws p [u8 k] = ws.filter fun w => !(w.peer == p && tok0 w == k) := List.filter_congr fun w hw => by
  rw [(h.one w hw).tok0, u8_toNat, show k % 256 = k by omega]
  cases h1 : w.peer == p <;> cases h2 : tok0 w == k <;> simp [bne, h1, h2]
theorem cancel_del {ws : List Watch} (h : Num ws) {p : Int} (hp : In p) {k : Int} (hk : 0 ≤ k ∧ k < 5) {M : Ents} (hM : M.Perm (entW ws)) : (mDel M (key2 p k)).Perm (entW (cancelW ws p [u8 k])) := by
  rw [cancel_eq h p hk, ← entW_del h hp ⟨by omega, by omega⟩]
  exact mDel_perm hM _
theorem cancel_has {ws : List Watch} (h : Num ws) {p : Int} (hp : In p) {k : Int} (hk : 0 ≤ k ∧ k < 5) {M : Ents} (hM : M.Perm (entW ws)) : mHas M (key2 p k) = decide ((cancelW ws p [u8 k]).length < ws.length) := by
  rw [mHas_perm hM, entW_has h hp ⟨by omega, by omega⟩, cancel_eq h p hk, Bool.eq_iff_iff, decide_eq_true_eq, List.any_eq_true]
  have key := List.length_filter_lt_length_iff_exists (p := fun w => !(w.peer == p && tok0 w == k)) (l := ws)
  rw [key]
  constructor
  · rintro ⟨w, hw, h1⟩; exact ⟨w, hw, by simpa using h1⟩
  · rintro ⟨w, hw, h1⟩; exact ⟨w, hw, by simpa using h1⟩
/-! notify -/
def hitW (ws : List Watch) (key : List UInt8) : List Watch := ws.filter fun w => w.key == key
def mixW (ws : List Watch) (key : List UInt8) (j : Nat) : List Watch := ((hitW ws key).take j).map (tell key) ++ ((hitW ws key).drop j ++ ws.filter fun w => !(w.key == key))
theorem told_eq (ws : List Watch) (key : List UInt8) : toldW ws key = (hitW ws key).map (tell key) := by
  unfold toldW notW hitW
  rw [List.filter_map]
  congr 1
  refine List.filter_congr fun w _ => ?_
  show ((tell key w).key == key) = _
  rw [(tell_tok key w).2.1]
theorem hits_perm (ws : List Watch) (key : List UInt8) : (hitW ws key ++ ws.filter fun w => !(w.key == key)).Perm ws := List.filter_append_perm _ ws
theorem mix0 (ws : List Watch) (key : List UInt8) : (mixW ws key 0).Perm ws := by
  simp only [mixW, List.take_zero, List.map_nil, List.nil_append, List.drop_zero]
  exact hits_perm ws key
theorem mix_all (ws : List Watch) (key : List UInt8) : (mixW ws key (toldW ws key).length).Perm (notW ws key) := by
  have hl : (toldW ws key).length = (hitW ws key).length := by rw [told_eq, List.length_map]
  unfold mixW
  rw [hl, List.take_length, List.drop_length, List.nil_append]
  have h1 := (hits_perm ws key).map (tell key)
  rw [List.map_append] at h1
  have h2 : (ws.filter fun w => !(w.key == key)).map (tell key) = ws.filter fun w => !(w.key == key) := by
    refine (List.map_congr_left fun w hw => ?_).trans (List.map_id _)
    have := (List.mem_filter.1 hw).2
    unfold tell
    rw [if_neg (by simpa using this)]; rfl
  rw [h2] at h1
  exact h1
theorem kW_tell (key : List UInt8) (w : Watch) : kW (tell key w) = kW w := by
  unfold kW tok0
  rw [(tell_tok key w).1, (tell_tok key w).2.2.1]
theorem mix_keys {ws : List Watch} (h : Num ws) (key : List UInt8) (j : Nat) : (entW (mixW ws key j)).Pairwise fun p q => p.1 ≠ q.1 := by
  have h1 : (ws.map kW).Pairwise (· ≠ ·) := by
    have := h.keys
    rw [entW, List.pairwise_map] at this
    rw [List.pairwise_map]; exact this
  have h2 : ((mixW ws key j).map kW).Perm (ws.map kW) := by
    have e : (mixW ws key j).map kW = (hitW ws key ++ ws.filter fun w => !(w.key == key)).map kW := by
      unfold mixW
      rw [List.map_append, List.map_append, List.map_append, List.map_map, ← List.append_assoc]
      congr 1
      rw [show kW ∘ tell key = kW from funext fun w => kW_tell key w, ← List.map_append, List.take_append_drop]
    rw [e]
    exact (hits_perm ws key).map kW
  have h3 : ((mixW ws key j).map kW).Pairwise (· ≠ ·) := (h2.symm.pairwise_iff (fun {_ _} hne => Ne.symm hne)).1 h1
  rw [List.pairwise_map] at h3
  rw [entW, List.pairwise_map]; exact h3
theorem wat_told {ws : List Watch} {key : List UInt8} {j : Nat} (hj : j < (toldW ws key).length) : wat (toldW ws key) j = tell key (wat (hitW ws key) j) ∧ j < (hitW ws key).length := by
  have hj' : j < (hitW ws key).length := by rw [told_eq, List.length_map] at hj; exact hj
  refine ⟨?_, hj'⟩
  rw [told_eq]
  simp [wat, hj']
theorem mix_split {ws : List Watch} {key : List UInt8} {j : Nat} (hj : j < (hitW ws key).length) : entW (mixW ws key j) = entW (((hitW ws key).take j).map (tell key)) ++ (kW (wat (hitW ws key) j), .int .i64 (wat (hitW ws key) j).seq) :: entW ((hitW ws key).drop (j + 1) ++ ws.filter fun w => !(w.key == key)) := by
  have e : (hitW ws key).drop j = wat (hitW ws key) j :: (hitW ws key).drop (j + 1) := by
    rw [List.drop_eq_getElem_cons hj]; simp [wat, hj]
  unfold mixW
  rw [e]
  simp [entW]
theorem mix_step {ws : List Watch} (h : Num ws) {key : List UInt8} {j : Nat} (hj : j < (hitW ws key).length) {M : Ents} (hM : M.Perm (entW (mixW ws key j))) :
    mHas M (kW (wat (hitW ws key) j)) = true ∧ mGet M (kW (wat (hitW ws key) j)) (.int .i64 0) = .int .i64 (wat (hitW ws key) j).seq ∧ (mPut M (kW (wat (hitW ws key) j)) (.int .i64 (tell key (wat (hitW ws key) j)).seq)).Perm (entW (mixW ws key (j + 1))) := by
  have hk := mix_keys h key j
  have hmem : (kW (wat (hitW ws key) j), Lit.int .i64 (wat (hitW ws key) j).seq) ∈ entW (mixW ws key j) := by rw [mix_split hj]; simp
  refine ⟨?_, mGet_mem hM hk (isKey2 _ _) hmem, ?_⟩
  · rw [mHas_perm hM]
    exact List.any_eq_true.2 ⟨_, hmem, WideAt.sameKey_self (isKey2 _ _)⟩
  · rw [mix_split hj] at hM hk
    refine (mPut_perm (isKey2 _ _) hM hk).trans (List.Perm.of_eq ?_)
    unfold mixW
    have e : (hitW ws key).take (j + 1) = (hitW ws key).take j ++ [wat (hitW ws key) j] := by rw [List.take_add_one]; simp [wat, hj]
    rw [e]
    simp only [entW, List.map_append, List.map_cons, List.map_nil, List.append_assoc, List.cons_append, List.nil_append, kW_tell]
    rfl
theorem mix_len (ws : List Watch) (key : List UInt8) (j : Nat) : (mixW ws key j).length = ws.length := by
  have h := (hits_perm ws key).length_eq
  rw [List.length_append] at h
  unfold mixW
  rw [List.length_append, List.length_map, List.length_take, List.length_append, List.length_drop]
  omega
theorem hit_at {ws : List Watch} {key : List UInt8} {j : Nat} (hj : j < (hitW ws key).length) : wat (hitW ws key) j ∈ ws ∧ (wat (hitW ws key) j).key = key := by
  have hm : wat (hitW ws key) j ∈ hitW ws key := by simp [wat, hj]
  have := List.mem_filter.1 hm
  exact ⟨this.1, by simpa using this.2⟩
end Go.Proofs.Ytlcoanbdaephiaa.Ob
