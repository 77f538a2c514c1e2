/-
  Mod, and the deck: New, Next, Left.
-/
import Derived.Test.YtiddmpmpjdnmeaaTy
import Derived.Test.YtiddmpmpjdnmeaaSu
namespace Go.Proofs.Ytiddmpmpjdnmeaa.Dk
open Go.RowKit L A
set_option linter.unusedVariables false
set_option linter.unusedSimpArgs false
attribute [local irreducible] AW AQ AO

theorem mod_fn (v n : Int) (h1 : 0 < n) (h2 : n ≤ 4611686018427387904) : Sp Try.prog 16 [.val (.int .i64 v), .val (.int .i64 n)] [] (Is (.val (.int .i64 (v % n)))) := by
  have hf := tmod_fix2 v n h1
  have hlt : v.tmod n < n := Int.tmod_lt_of_pos v h1
  have hge : -n < v.tmod n := by
    rcases Int.le_total 0 v with hv | hv
    · have := Int.tmod_nonneg n hv; omega
    · have := Int.lt_tmod_of_pos v h1; omega
  refine Sp.enter Try.func16 rfl _ Try.ntmps16 rfl (fun w0 R0 => ?_)
  refine AW.seq ?_
  refine AW.region ?_
  refine AO.op (O.assign rfl rfl) rfl rfl rfl ?_
  refine AO.nil ?_
  refine AQ.thenN ?_
  refine AW.seq ?_
  refine AW.region ?_
  refine AO.op (O.move rfl rfl) rfl rfl rfl ?_
  refine AO.op (O.move rfl rfl) rfl rfl rfl ?_
  refine AO.op (O.rem rfl rfl rfl (by omega) rfl) rfl rfl rfl ?_
  refine AO.op (O.assign rfl rfl) rfl rfl rfl ?_
  refine AO.nil ?_
  refine AQ.thenN ?_
  refine AW.seq ?_
  refine AW.seq ?_
  refine AW.region ?_
  refine AO.op (O.move rfl rfl) rfl rfl rfl ?_
  refine AO.op (O.lss rfl rfl rfl (by first | exact bTrue (by omega) | exact bFalse (by omega) | assumption | rfl)) rfl rfl rfl ?_
  refine AO.nil ?_
  refine AQ.thenN ?_
  refine AW.split rfl (fun h => ?_) (fun h => ?_)
  · skip
    have h : v.tmod n < 0 := of_decide_eq_true h
    rw [if_pos h] at hf
    refine AW.region ?_
    refine AO.op (O.move rfl rfl) rfl rfl rfl ?_
    refine AO.op (O.move rfl rfl) rfl rfl rfl ?_
    refine AO.op (O.add rfl rfl rfl (by first | exact wI64 (by omega) | rfl)) rfl rfl rfl ?_
    refine AO.op (O.assign rfl rfl) rfl rfl rfl ?_
    refine AO.nil ?_
    refine AQ.thenN ?_
    refine AW.seq ?_
    refine AW.region ?_
    refine AO.op (O.move rfl rfl) rfl rfl rfl ?_
    refine AO.op (O.assign rfl rfl) rfl rfl rfl ?_
    refine AO.nil ?_
    refine AQ.thenN ?_
    refine AW.ret ?_
    refine AQ.ret1 rfl rfl ⟨_, List.nil_sublist _, .nil⟩ (⟨by rw [hf], rfl⟩)
  · skip
    have h : ¬ v.tmod n < 0 := of_decide_eq_false h
    rw [if_neg h] at hf
    refine AW.skip ?_
    refine AQ.thenN ?_
    refine AW.seq ?_
    refine AW.region ?_
    refine AO.op (O.move rfl rfl) rfl rfl rfl ?_
    refine AO.op (O.assign rfl rfl) rfl rfl rfl ?_
    refine AO.nil ?_
    refine AQ.thenN ?_
    refine AW.ret ?_
    refine AQ.ret1 rfl rfl ⟨_, List.nil_sublist _, .nil⟩ (⟨by rw [hf], rfl⟩)

/-- A deck: its numbers, and how many are taken. -/
abbrev deck (b : Nat) (l : List Int) (k : Nat) : HE := .blk b 58 2 [roI l, .val (.int .i64 (k : Int))]
abbrev ptr (b : Nat) : AV := .val (.pointer (some ⟨b, 0, none⟩))
def nxt (l : List Int) (k : Nat) (n : Int) : Int := if k < l.length then l.getD k 0 % n else 0
def adv (l : List Int) (k : Nat) : Nat := if k < l.length then k + 1 else k
theorem nxt_in (l : List Int) (k : Nat) {n : Int} (h : 0 < n) : 0 ≤ nxt l k n ∧ nxt l k n < n := by
  unfold nxt
  split
  · exact ⟨Int.emod_nonneg _ (by omega), Int.emod_lt_of_pos _ h⟩
  · omega
theorem adv_le {l : List Int} {k m : Nat} (h : k ≤ m) (hm : l.length ≤ m) : adv l k ≤ m := by unfold adv; split <;> omega
theorem adv_le' {l : List Int} {k : Nat} (h : k ≤ l.length) : adv l k ≤ l.length := adv_le h (Nat.le_refl _)

theorem new_fn (l : List Int) : Sp Try.prog 11 [roI l] [] (NewBlk (fun b => .val (.pointer (some ⟨b, 0, none⟩))) 58 2 [roI l, .val (.int .i64 0)]) := by
  refine Sp.enter Try.func11 rfl _ Try.ntmps11 rfl (fun w0 R0 => ?_)
  refine AW.seq ?_
  refine AW.region ?_
  refine AO.op (O.assign rfl rfl) rfl rfl rfl ?_
  refine AO.nil ?_
  refine AQ.thenN ?_
  refine AW.seq ?_
  refine AW.region ?_
  refine AO.op (O.move rfl rfl) rfl rfl rfl ?_
  refine AO.op (O.build rfl rfl rfl (by rfl)) rfl rfl rfl ?_
  refine AO.opB (O.box rfl rfl rfl rfl rfl) rfl rfl rfl ?_
  intro B
  refine AO.op (O.assign rfl rfl) rfl rfl rfl ?_
  refine AO.nil ?_
  refine AQ.thenN ?_
  refine AW.ret ?_
  refine AQ.ret1 rfl rfl ⟨_, by repeat (first | exact List.Sublist.slnil | refine List.Sublist.cons_cons _ ?_ | refine List.Sublist.cons _ ?_), List.Perm.refl _⟩ (⟨B, rfl, rfl⟩)

theorem roI_at {l : List Int} {k : Nat} (h : k < l.length) {j : Nat} (hj : j = k) : (intsA .i64 l)[j]? = some (.val (.int .i64 (l.getD k 0))) := by
  subst hj; simp [intsA, h]
set_option maxHeartbeats 1000000 in
theorem next_fn (b : Nat) (l : List Int) (k : Nat) (n : Int) (hl : l.length ≤ maxLen) (hk : k ≤ l.length) (hn1 : 0 < n) (hn2 : n ≤ 4611686018427387904) :
    Sp Try.prog 36 [ptr b, .val (.int .i64 n)] [deck b l k] (IsM (.val (.int .i64 (nxt l k n))) (deck b l (adv l k))) := by
  unfold maxLen at hl
  refine Sp.enter Try.func36 rfl _ Try.ntmps36 rfl (fun w0 R0 => ?_)
  refine AW.seq ?_
  refine AW.region ?_
  refine AO.op (O.assign rfl rfl) rfl rfl rfl ?_
  refine AO.nil ?_
  refine AQ.thenN ?_
  refine AW.seq ?_
  refine AW.seq ?_
  refine AW.regionD 10 (by kernel_rfl) (by kernel_rfl) ?_
  simp only [List.take_succ_cons, List.take_zero, List.drop_succ_cons, List.drop_zero]
  refine FA.op (O.move rfl rfl) rfl rfl rfl rfl ?_
  first | (refine FA.op (O.nilCheck rfl rfl) rfl rfl rfl rfl ?_) | (refine FA.op (O.nilCheckR rfl rfl) rfl rfl rfl rfl ?_)
  first | (refine FA.op (O.fieldAddrR rfl rfl) rfl rfl rfl rfl ?_) | (refine FA.op (O.fieldAddr rfl rfl) rfl rfl rfl rfl ?_)
  first | (refine FA.op (O.loadR rfl rfl (by first | rfl | exact roI_at (by assumption) (by omega))) rfl rfl rfl rfl ?_) | (refine FA.op (O.load rfl rfl (by repeat (first | exact List.Mem.head _ | refine List.Mem.tail _ ?_)) (by first | rfl | exact roI_at (by assumption) (by omega))) rfl rfl rfl rfl ?_)
  refine FA.op (O.move rfl rfl) rfl rfl rfl rfl ?_
  first | (refine FA.op (O.nilCheck rfl rfl) rfl rfl rfl rfl ?_) | (refine FA.op (O.nilCheckR rfl rfl) rfl rfl rfl rfl ?_)
  first | (refine FA.op (O.fieldAddrR rfl rfl) rfl rfl rfl rfl ?_) | (refine FA.op (O.fieldAddr rfl rfl) rfl rfl rfl rfl ?_)
  first | (refine FA.op (O.loadR rfl rfl (by first | rfl | exact roI_at (by assumption) (by omega))) rfl rfl rfl rfl ?_) | (refine FA.op (O.load rfl rfl (by repeat (first | exact List.Mem.head _ | refine List.Mem.tail _ ?_)) (by first | rfl | exact roI_at (by assumption) (by omega))) rfl rfl rfl rfl ?_)
  first | (refine FA.op (O.lenR rfl rfl) rfl rfl rfl rfl ?_) | (refine FA.op (O.lenV rfl rfl) rfl rfl rfl rfl ?_) | (refine FA.op (O.lenRow rfl rfl (by repeat (first | exact List.Mem.head _ | refine List.Mem.tail _ ?_))) rfl rfl rfl rfl ?_) | (refine FA.op (O.lenS rfl rfl) rfl rfl rfl rfl ?_)
  refine FA.op (O.geq rfl rfl rfl (by first | exact bTrue (by omega) | exact bFalse (by omega) | assumption | rfl)) rfl rfl rfl rfl ?_
  refine FA.nil ?_
  simp only [chosen, List.nil_append, List.cons_append, List.append_nil]
  refine AO.nil ?_
  refine AQ.thenN ?_
  refine AW.split rfl (fun h => ?_) (fun h => ?_)
  · skip
    have h : ¬ k < l.length := by have := of_decide_eq_true h; omega
    refine AW.seq ?_
    refine AW.region ?_
    refine AO.op (O.assign rfl rfl) rfl rfl rfl ?_
    refine AO.nil ?_
    refine AQ.thenN ?_
    refine AW.ret ?_
    refine AQ.thenR ?_
    have e1 : nxt l k n = 0 := by simp only [nxt, if_neg h]
    have e2 : adv l k = k := by simp only [adv, if_neg h]
    refine AQ.ret1 rfl rfl ⟨_, by repeat (first | exact List.Sublist.slnil | refine List.Sublist.cons_cons _ ?_ | refine List.Sublist.cons _ ?_), List.Perm.refl _⟩ (⟨congrArg (fun z => AV.val (.int .i64 z)) e1.symm, congrArg (fun z => [deck b l z]) e2.symm⟩)
  · skip
    have h : k < l.length := by have := of_decide_eq_false h; omega
    refine AW.skip ?_
    refine AQ.thenN ?_
    refine AW.seq ?_
    refine AW.region ?_
    refine AO.op (O.move rfl rfl) rfl rfl rfl ?_
    first | (refine AO.op (O.nilCheck rfl rfl) rfl rfl rfl ?_) | (refine AO.op (O.nilCheckR rfl rfl) rfl rfl rfl ?_)
    first | (refine AO.op (O.fieldAddrR rfl rfl) rfl rfl rfl ?_) | (refine AO.op (O.fieldAddr rfl rfl) rfl rfl rfl ?_)
    first | (refine AO.op (O.loadR rfl rfl (by first | rfl | exact roI_at (by assumption) (by omega))) rfl rfl rfl ?_) | (refine AO.op (O.load rfl rfl (by repeat (first | exact List.Mem.head _ | refine List.Mem.tail _ ?_)) (by first | rfl | exact roI_at (by assumption) (by omega))) rfl rfl rfl ?_)
    refine AO.op (O.add rfl rfl rfl (by first | exact wI64 (by omega) | rfl)) rfl rfl rfl ?_
    first | (refine AO.op (O.nilCheck rfl rfl) rfl rfl rfl ?_) | (refine AO.op (O.nilCheckR rfl rfl) rfl rfl rfl ?_)
    first | (refine AO.op (O.fieldAddrR rfl rfl) rfl rfl rfl ?_) | (refine AO.op (O.fieldAddr rfl rfl) rfl rfl rfl ?_)
    first | (refine AO.store (i := 0) rfl rfl rfl rfl rfl rfl (by first | rfl | assumption | (simp [AV.cells, AV.one, *]; done) | simp [AV.cells, AV.one, Value.oneCell', *]) (by rfl) (by rfl) (by first | (dsimp only [List.set, List.append, List.cons_append, List.nil_append, splice, ofConst, AV.cells, List.map, List.map_cons, List.map_nil, List.take, List.drop, Nat.zero_add, Nat.add_zero, Nat.reduceAdd, Nat.reduceMul, Nat.zero_mul, Value.cells, List.toList_toArray, zerosA, List.replicate, List.flatten, List.append_nil]; rfl) | (dsimp only [List.set, List.append, List.cons_append, List.nil_append, splice, ofConst, AV.cells, List.map, List.map_cons, List.map_nil, List.take, List.drop, Nat.zero_add, Nat.add_zero, Nat.reduceAdd, Nat.reduceMul, Nat.zero_mul, Value.cells, List.toList_toArray, zerosA, List.replicate, List.flatten, List.append_nil]; done) | rfl) (by first | (dsimp only [List.set, List.append, List.cons_append, List.nil_append, splice, ofConst, AV.cells, List.map, List.map_cons, List.map_nil, List.take, List.drop, Nat.zero_add, Nat.add_zero, Nat.reduceAdd, Nat.reduceMul, Nat.zero_mul, Value.cells, List.toList_toArray, zerosA, List.replicate, List.flatten, List.append_nil]; rfl) | (dsimp only [List.set, List.append, List.cons_append, List.nil_append, splice, ofConst, AV.cells, List.map, List.map_cons, List.map_nil, List.take, List.drop, Nat.zero_add, Nat.add_zero, Nat.reduceAdd, Nat.reduceMul, Nat.zero_mul, Value.cells, List.toList_toArray, zerosA, List.replicate, List.flatten, List.append_nil]; done) | rfl) ?_) | (refine AO.store (i := 1) rfl rfl rfl rfl rfl rfl (by first | rfl | assumption | (simp [AV.cells, AV.one, *]; done) | simp [AV.cells, AV.one, Value.oneCell', *]) (by rfl) (by rfl) (by first | (dsimp only [List.set, List.append, List.cons_append, List.nil_append, splice, ofConst, AV.cells, List.map, List.map_cons, List.map_nil, List.take, List.drop, Nat.zero_add, Nat.add_zero, Nat.reduceAdd, Nat.reduceMul, Nat.zero_mul, Value.cells, List.toList_toArray, zerosA, List.replicate, List.flatten, List.append_nil]; rfl) | (dsimp only [List.set, List.append, List.cons_append, List.nil_append, splice, ofConst, AV.cells, List.map, List.map_cons, List.map_nil, List.take, List.drop, Nat.zero_add, Nat.add_zero, Nat.reduceAdd, Nat.reduceMul, Nat.zero_mul, Value.cells, List.toList_toArray, zerosA, List.replicate, List.flatten, List.append_nil]; done) | rfl) (by first | (dsimp only [List.set, List.append, List.cons_append, List.nil_append, splice, ofConst, AV.cells, List.map, List.map_cons, List.map_nil, List.take, List.drop, Nat.zero_add, Nat.add_zero, Nat.reduceAdd, Nat.reduceMul, Nat.zero_mul, Value.cells, List.toList_toArray, zerosA, List.replicate, List.flatten, List.append_nil]; rfl) | (dsimp only [List.set, List.append, List.cons_append, List.nil_append, splice, ofConst, AV.cells, List.map, List.map_cons, List.map_nil, List.take, List.drop, Nat.zero_add, Nat.add_zero, Nat.reduceAdd, Nat.reduceMul, Nat.zero_mul, Value.cells, List.toList_toArray, zerosA, List.replicate, List.flatten, List.append_nil]; done) | rfl) ?_) | (refine AO.store (i := 2) rfl rfl rfl rfl rfl rfl (by first | rfl | assumption | (simp [AV.cells, AV.one, *]; done) | simp [AV.cells, AV.one, Value.oneCell', *]) (by rfl) (by rfl) (by first | (dsimp only [List.set, List.append, List.cons_append, List.nil_append, splice, ofConst, AV.cells, List.map, List.map_cons, List.map_nil, List.take, List.drop, Nat.zero_add, Nat.add_zero, Nat.reduceAdd, Nat.reduceMul, Nat.zero_mul, Value.cells, List.toList_toArray, zerosA, List.replicate, List.flatten, List.append_nil]; rfl) | (dsimp only [List.set, List.append, List.cons_append, List.nil_append, splice, ofConst, AV.cells, List.map, List.map_cons, List.map_nil, List.take, List.drop, Nat.zero_add, Nat.add_zero, Nat.reduceAdd, Nat.reduceMul, Nat.zero_mul, Value.cells, List.toList_toArray, zerosA, List.replicate, List.flatten, List.append_nil]; done) | rfl) (by first | (dsimp only [List.set, List.append, List.cons_append, List.nil_append, splice, ofConst, AV.cells, List.map, List.map_cons, List.map_nil, List.take, List.drop, Nat.zero_add, Nat.add_zero, Nat.reduceAdd, Nat.reduceMul, Nat.zero_mul, Value.cells, List.toList_toArray, zerosA, List.replicate, List.flatten, List.append_nil]; rfl) | (dsimp only [List.set, List.append, List.cons_append, List.nil_append, splice, ofConst, AV.cells, List.map, List.map_cons, List.map_nil, List.take, List.drop, Nat.zero_add, Nat.add_zero, Nat.reduceAdd, Nat.reduceMul, Nat.zero_mul, Value.cells, List.toList_toArray, zerosA, List.replicate, List.flatten, List.append_nil]; done) | rfl) ?_) | (refine AO.store (i := 3) rfl rfl rfl rfl rfl rfl (by first | rfl | assumption | (simp [AV.cells, AV.one, *]; done) | simp [AV.cells, AV.one, Value.oneCell', *]) (by rfl) (by rfl) (by first | (dsimp only [List.set, List.append, List.cons_append, List.nil_append, splice, ofConst, AV.cells, List.map, List.map_cons, List.map_nil, List.take, List.drop, Nat.zero_add, Nat.add_zero, Nat.reduceAdd, Nat.reduceMul, Nat.zero_mul, Value.cells, List.toList_toArray, zerosA, List.replicate, List.flatten, List.append_nil]; rfl) | (dsimp only [List.set, List.append, List.cons_append, List.nil_append, splice, ofConst, AV.cells, List.map, List.map_cons, List.map_nil, List.take, List.drop, Nat.zero_add, Nat.add_zero, Nat.reduceAdd, Nat.reduceMul, Nat.zero_mul, Value.cells, List.toList_toArray, zerosA, List.replicate, List.flatten, List.append_nil]; done) | rfl) (by first | (dsimp only [List.set, List.append, List.cons_append, List.nil_append, splice, ofConst, AV.cells, List.map, List.map_cons, List.map_nil, List.take, List.drop, Nat.zero_add, Nat.add_zero, Nat.reduceAdd, Nat.reduceMul, Nat.zero_mul, Value.cells, List.toList_toArray, zerosA, List.replicate, List.flatten, List.append_nil]; rfl) | (dsimp only [List.set, List.append, List.cons_append, List.nil_append, splice, ofConst, AV.cells, List.map, List.map_cons, List.map_nil, List.take, List.drop, Nat.zero_add, Nat.add_zero, Nat.reduceAdd, Nat.reduceMul, Nat.zero_mul, Value.cells, List.toList_toArray, zerosA, List.replicate, List.flatten, List.append_nil]; done) | rfl) ?_) | (refine AO.store (i := 4) rfl rfl rfl rfl rfl rfl (by first | rfl | assumption | (simp [AV.cells, AV.one, *]; done) | simp [AV.cells, AV.one, Value.oneCell', *]) (by rfl) (by rfl) (by first | (dsimp only [List.set, List.append, List.cons_append, List.nil_append, splice, ofConst, AV.cells, List.map, List.map_cons, List.map_nil, List.take, List.drop, Nat.zero_add, Nat.add_zero, Nat.reduceAdd, Nat.reduceMul, Nat.zero_mul, Value.cells, List.toList_toArray, zerosA, List.replicate, List.flatten, List.append_nil]; rfl) | (dsimp only [List.set, List.append, List.cons_append, List.nil_append, splice, ofConst, AV.cells, List.map, List.map_cons, List.map_nil, List.take, List.drop, Nat.zero_add, Nat.add_zero, Nat.reduceAdd, Nat.reduceMul, Nat.zero_mul, Value.cells, List.toList_toArray, zerosA, List.replicate, List.flatten, List.append_nil]; done) | rfl) (by first | (dsimp only [List.set, List.append, List.cons_append, List.nil_append, splice, ofConst, AV.cells, List.map, List.map_cons, List.map_nil, List.take, List.drop, Nat.zero_add, Nat.add_zero, Nat.reduceAdd, Nat.reduceMul, Nat.zero_mul, Value.cells, List.toList_toArray, zerosA, List.replicate, List.flatten, List.append_nil]; rfl) | (dsimp only [List.set, List.append, List.cons_append, List.nil_append, splice, ofConst, AV.cells, List.map, List.map_cons, List.map_nil, List.take, List.drop, Nat.zero_add, Nat.add_zero, Nat.reduceAdd, Nat.reduceMul, Nat.zero_mul, Value.cells, List.toList_toArray, zerosA, List.replicate, List.flatten, List.append_nil]; done) | rfl) ?_) | (refine AO.store (i := 5) rfl rfl rfl rfl rfl rfl (by first | rfl | assumption | (simp [AV.cells, AV.one, *]; done) | simp [AV.cells, AV.one, Value.oneCell', *]) (by rfl) (by rfl) (by first | (dsimp only [List.set, List.append, List.cons_append, List.nil_append, splice, ofConst, AV.cells, List.map, List.map_cons, List.map_nil, List.take, List.drop, Nat.zero_add, Nat.add_zero, Nat.reduceAdd, Nat.reduceMul, Nat.zero_mul, Value.cells, List.toList_toArray, zerosA, List.replicate, List.flatten, List.append_nil]; rfl) | (dsimp only [List.set, List.append, List.cons_append, List.nil_append, splice, ofConst, AV.cells, List.map, List.map_cons, List.map_nil, List.take, List.drop, Nat.zero_add, Nat.add_zero, Nat.reduceAdd, Nat.reduceMul, Nat.zero_mul, Value.cells, List.toList_toArray, zerosA, List.replicate, List.flatten, List.append_nil]; done) | rfl) (by first | (dsimp only [List.set, List.append, List.cons_append, List.nil_append, splice, ofConst, AV.cells, List.map, List.map_cons, List.map_nil, List.take, List.drop, Nat.zero_add, Nat.add_zero, Nat.reduceAdd, Nat.reduceMul, Nat.zero_mul, Value.cells, List.toList_toArray, zerosA, List.replicate, List.flatten, List.append_nil]; rfl) | (dsimp only [List.set, List.append, List.cons_append, List.nil_append, splice, ofConst, AV.cells, List.map, List.map_cons, List.map_nil, List.take, List.drop, Nat.zero_add, Nat.add_zero, Nat.reduceAdd, Nat.reduceMul, Nat.zero_mul, Value.cells, List.toList_toArray, zerosA, List.replicate, List.flatten, List.append_nil]; done) | rfl) ?_)
    refine AO.nil ?_
    refine AQ.thenN ?_
    refine AW.seq ?_
    refine AW.regionD 14 (by kernel_rfl) (by kernel_rfl) ?_
    simp only [List.take_succ_cons, List.take_zero, List.drop_succ_cons, List.drop_zero]
    refine FA.op (O.move rfl rfl) rfl rfl rfl rfl ?_
    first | (refine FA.op (O.nilCheck rfl rfl) rfl rfl rfl rfl ?_) | (refine FA.op (O.nilCheckR rfl rfl) rfl rfl rfl rfl ?_)
    first | (refine FA.op (O.fieldAddrR rfl rfl) rfl rfl rfl rfl ?_) | (refine FA.op (O.fieldAddr rfl rfl) rfl rfl rfl rfl ?_)
    first | (refine FA.op (O.loadR rfl rfl (by first | rfl | exact roI_at (by assumption) (by omega))) rfl rfl rfl rfl ?_) | (refine FA.op (O.load rfl rfl (by repeat (first | exact List.Mem.head _ | refine List.Mem.tail _ ?_)) (by first | rfl | exact roI_at (by assumption) (by omega))) rfl rfl rfl rfl ?_)
    refine FA.op (O.move rfl rfl) rfl rfl rfl rfl ?_
    first | (refine FA.op (O.nilCheck rfl rfl) rfl rfl rfl rfl ?_) | (refine FA.op (O.nilCheckR rfl rfl) rfl rfl rfl rfl ?_)
    first | (refine FA.op (O.fieldAddrR rfl rfl) rfl rfl rfl rfl ?_) | (refine FA.op (O.fieldAddr rfl rfl) rfl rfl rfl rfl ?_)
    first | (refine FA.op (O.loadR rfl rfl (by first | rfl | exact roI_at (by assumption) (by omega))) rfl rfl rfl rfl ?_) | (refine FA.op (O.load rfl rfl (by repeat (first | exact List.Mem.head _ | refine List.Mem.tail _ ?_)) (by first | rfl | exact roI_at (by assumption) (by omega))) rfl rfl rfl rfl ?_)
    refine FA.op (O.sub rfl rfl rfl (by first | exact wI64 (by omega) | rfl)) rfl rfl rfl rfl ?_
    first | (refine FA.op (O.idxR rfl rfl rfl ⟨(by first | omega | (simp only [List.length_take, List.length_drop, List.length_append, List.length_cons, List.length_nil, List.length_set, Nat.zero_add]; omega) | (simp only [cond_true, cond_false, Bool.not_eq_true', Bool.not_eq_false', Bool.and_eq_true, Bool.or_eq_true, Bool.or_eq_false_iff, Bool.and_eq_false_imp, decide_eq_true_eq, decide_eq_false_iff_not, beq_iff_eq, bne_iff_ne, bne_eq_false_iff_eq, ne_eq] at hp; omega)), (by first | omega | (simp only [List.length_take, List.length_drop, List.length_append, List.length_cons, List.length_nil, List.length_set, Nat.zero_add]; omega) | (simp only [cond_true, cond_false, Bool.not_eq_true', Bool.not_eq_false', Bool.and_eq_true, Bool.or_eq_true, Bool.or_eq_false_iff, Bool.and_eq_false_imp, decide_eq_true_eq, decide_eq_false_iff_not, beq_iff_eq, bne_iff_ne, bne_eq_false_iff_eq, ne_eq] at hp; omega))⟩) rfl rfl rfl rfl ?_) | (refine FA.op (O.idxV rfl rfl rfl ⟨(by first | omega | (simp only [List.length_take, List.length_drop, List.length_append, List.length_cons, List.length_nil, List.length_set, Nat.zero_add]; omega) | (simp only [cond_true, cond_false, Bool.not_eq_true', Bool.not_eq_false', Bool.and_eq_true, Bool.or_eq_true, Bool.or_eq_false_iff, Bool.and_eq_false_imp, decide_eq_true_eq, decide_eq_false_iff_not, beq_iff_eq, bne_iff_ne, bne_eq_false_iff_eq, ne_eq] at hp; omega)), (by first | omega | (simp only [List.length_take, List.length_drop, List.length_append, List.length_cons, List.length_nil, List.length_set, Nat.zero_add]; omega) | (simp only [cond_true, cond_false, Bool.not_eq_true', Bool.not_eq_false', Bool.and_eq_true, Bool.or_eq_true, Bool.or_eq_false_iff, Bool.and_eq_false_imp, decide_eq_true_eq, decide_eq_false_iff_not, beq_iff_eq, bne_iff_ne, bne_eq_false_iff_eq, ne_eq] at hp; omega))⟩) rfl rfl rfl rfl ?_)
    first | (refine FA.op (O.loadR rfl rfl (by first | rfl | exact roI_at (by assumption) (by omega))) rfl rfl rfl rfl ?_) | (refine FA.op (O.load rfl rfl (by repeat (first | exact List.Mem.head _ | refine List.Mem.tail _ ?_)) (by first | rfl | exact roI_at (by assumption) (by omega))) rfl rfl rfl rfl ?_)
    refine FA.op (O.move rfl rfl) rfl rfl rfl rfl ?_
    first | (refine FA.op (O.call rfl Try.func16 rfl rfl rfl (mod_fn _ _ hn1 hn2)) rfl rfl rfl rfl ?_) | (refine FA.op (O.callC rfl Try.func16 rfl rfl rfl (mod_fn _ _ hn1 hn2) (by repeat (first | exact CoeL.nil | refine CoeL.cons Coe.rfl ?_ | refine CoeL.cons Coe.nil ?_ | refine CoeL.cons Coe.unfull ?_ | refine CoeL.cons (Coe.agg ?_) ?_ | refine CoeL.cons (Coe.tup ?_) ?_))) rfl rfl rfl rfl ?_) | (refine FA.op (O.callL rfl Try.func16 rfl rfl rfl (by repeat (first | exact List.Mem.head _ | refine List.Mem.tail _ ?_)) (mod_fn _ _ hn1 hn2) (by repeat (first | exact LendL.nil | refine LendL.same ?_ | refine LendL.lend ?_))) rfl rfl rfl rfl ?_)
    refine FA.op (O.assign rfl rfl) rfl rfl rfl rfl ?_
    refine FA.nil ?_
    simp only [chosen, List.nil_append, List.cons_append, List.append_nil]
    refine AO.nil ?_
    refine AQ.thenN ?_
    refine AW.ret ?_
    have e1 : nxt l k n = l.getD k 0 % n := by simp only [nxt, if_pos h]
    have e2 : adv l k = k + 1 := by simp only [adv, if_pos h]
    refine AQ.ret1 rfl rfl ⟨_, by repeat (first | exact List.Sublist.slnil | refine List.Sublist.cons_cons _ ?_ | refine List.Sublist.cons _ ?_), List.Perm.refl _⟩ (⟨congrArg (fun z => AV.val (.int .i64 z)) e1.symm, congrArg (fun z => [deck b l z]) e2.symm⟩)
end Go.Proofs.Ytiddmpmpjdnmeaa.Dk
