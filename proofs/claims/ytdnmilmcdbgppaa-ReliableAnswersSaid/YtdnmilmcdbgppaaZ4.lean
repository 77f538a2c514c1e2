/-
  Texts laid together (part 4): what the statement's walk and plain law need. No condition.
-/
import Derived.Test.YtdnmilmcdbgppaaZ3
namespace Go.Proofs.Ytdnmilmcdbgppaa.By
open Go.RowKit L A
set_option linter.unusedVariables false
set_option maxRecDepth 20000
set_option linter.unusedSimpArgs false
attribute [local irreducible] AW AQ AO
theorem flat_part {α : Type} {f : α → List AV} {k : Nat} (hf : ∀ a, (f a).length = k) (d : α) {l : List α} {i c n : Nat} (h : i < l.length) (hc : c + n ≤ k) {j : Nat} (hj : j = i * k + c) : ((l.flatMap f).drop j).take n = ((f (l.getD i d)).drop c).take n := by
  rw [← flat_at hf d h rfl, List.drop_take, List.drop_drop, List.take_take, hj, Nat.min_eq_left (by omega)]
theorem getWm {l : List Wt} {k : Nat} (h : k < l.length) {j : Nat} (hj : j = k * 9 + 1) : ((wtsA l).drop j).take 6 = cellsM (wt l k).m := flat_part cellsW_len Wt.none h (c := 1) (n := 6) (by omega) hj
theorem cellWi {l : List Wt} {k : Nat} (h : k < l.length) (c : Nat) (hc : c < 9) {j : Nat} (hj : j = k * 9 + c) {v : AV} (hv : (cellsW (wt l k))[c]? = some v) : (wtsA l)[j]? = some v := (cellW h hc hj).trans hv
def CmpW (l : List Wt) : Prop := l.length ≤ 1000000 ∧ ∀ w ∈ l, w.m.opts.length ≤ 140737488355328
set_option maxHeartbeats 4000000 in
theorem sameW_fn (l : List Wt) (h : CmpW l) : Sp Try.prog 52 [roW l, roW l] [] (Is (.val (.bool true))) := by
  obtain ⟨hl, hm⟩ := h
  refine Sp.enter Try.func52 rfl _ Try.ntmps52 rfl (fun w0 R0 => ?_)
  refine AW.seq ?_
  refine AW.region ?_
  refine AO.op (O.assign rfl rfl) rfl rfl rfl ?_
  refine AO.nil ?_
  refine AQ.thenN ?_
  refine AW.seq ?_
  refine AW.seq ?_
  refine AW.region ?_
  refine AO.op (O.move rfl rfl) rfl rfl rfl ?_
  refine AO.op (O.lenR rfl rfl) rfl rfl rfl ?_
  refine AO.op (O.move rfl rfl) rfl rfl rfl ?_
  refine AO.op (O.lenR rfl rfl) rfl rfl rfl ?_
  refine AO.op (O.neq rfl rfl rfl (by exact bne_eq_false_iff_eq.2 (by omega))) rfl rfl rfl ?_
  refine AO.nil ?_
  refine AQ.thenN ?_
  refine AW.split rfl (fun h => ?_) (fun h => ?_) <;> (try simp only [decide_eq_true_eq, decide_eq_false_iff_not, beq_iff_eq, beq_eq_false_iff_ne, bne_iff_ne, bne_eq_false_iff_eq, Bool.not_eq_true', Bool.not_eq_false', Bool.not_eq_true, Bool.not_eq_false, ne_eq, Int.not_lt, Int.not_le, Bool.and_eq_true, Bool.or_eq_true, Bool.or_eq_false_iff, Bool.and_eq_false_imp, strOf_toList, Decidable.not_not] at h)
  · skip
    exact absurd h (by simp)
  · skip
    refine AW.skip ?_
    refine AQ.thenN ?_
    refine AW.seq ?_
    refine AW.seq ?_
    refine AW.region ?_
    refine AO.op (O.move rfl rfl) rfl rfl rfl ?_
    refine AO.op (O.lenR rfl rfl) rfl rfl rfl ?_
    refine AO.op (O.move rfl rfl) rfl rfl rfl ?_
    refine AO.nil ?_
    refine AQ.thenN ?_
    refine AW.block ?_
    refine AW.loopK [(1, _), (12, _), (13, _)] (fun nn E H => ∃ (k : Nat), (k ≤ l.length) ∧ nn = l.length - k ∧ E = [(14, .val (.int .i64 (k : Int)))] ∧ H = []) _ (⟨0, by omega, rfl, rfl, rfl⟩) (by repeat (first | exact envNil | refine envCons rfl ?_)) (by repeat (first | exact envNil | refine envCons rfl ?_)) (by repeat (exact subPnil)) ?_
    rintro nn E H ⟨k, hk1, rfl, rfl, rfl⟩
    dsimp only [List.cons_append, List.nil_append]
    refine AW.seq ?_
    refine AW.region ?_
    refine AO.op (O.lss rfl rfl rfl (by rfl)) rfl rfl rfl ?_
    refine AO.nil ?_
    refine AQ.thenN ?_
    refine AW.seq ?_
    refine AW.split rfl (fun hlt => ?_) (fun hlt => ?_) <;> (try simp only [decide_eq_true_eq, decide_eq_false_iff_not, beq_iff_eq, beq_eq_false_iff_ne, bne_iff_ne, bne_eq_false_iff_eq, Bool.not_eq_true', Bool.not_eq_false', Bool.not_eq_true, Bool.not_eq_false, ne_eq, Int.not_lt, Int.not_le, Bool.and_eq_true, Bool.or_eq_true, Bool.or_eq_false_iff, Bool.and_eq_false_imp, strOf_toList, Decidable.not_not] at hlt)
    · skip
      have hk : k < l.length := by omega
      have hbd := hm _ (getD_mem Wt.none hk)
      have hgw := getW hk (j := Int.toNat (k : Int)) (by omega)
      have hgm := getWm hk (j := Int.toNat (k : Int) * 9 + 1) (by omega)
      have hgp := cellWi hk 0 (by omega) (j := Int.toNat (k : Int) * 9 + 0) (by omega) rfl
      have hgd := cellWi hk 7 (by omega) (j := Int.toNat (k : Int) * 9 + 7) (by omega) rfl
      have hgs := cellWi hk 8 (by omega) (j := Int.toNat (k : Int) * 9 + 8) (by omega) rfl
      refine AW.skip ?_
      refine AQ.thenN ?_
      refine AW.seq ?_
      refine AW.block ?_
      refine AW.seq ?_
      refine AW.region ?_
      refine AO.op (O.move rfl rfl) rfl rfl rfl ?_
      refine AO.op (O.idxR rfl rfl rfl ⟨(by omega), (by omega)⟩) rfl rfl rfl ?_
      refine AO.op (O.loadRK rfl rfl (by exact hgw) (by rfl)) rfl rfl rfl ?_
      refine AO.opB (O.alloc rfl (by (dsimp only [zerosA, List.replicate, List.append, List.flatten, AV.cells, Value.cells, List.toList_toArray, List.map]; done)) (by rfl)) rfl rfl rfl ?_
      intro B1
      refine AO.op (O.assign rfl rfl) rfl rfl rfl ?_
      (refine AO.store (i := 0) rfl rfl rfl rfl rfl rfl (by rfl) (by rfl) (by rfl) (by (dsimp only [List.set, List.cons_append, List.nil_append, List.take, List.drop]; done)) (by (dsimp only [List.set, List.cons_append, List.nil_append, List.take, List.drop]; done)) ?_)
      refine AO.nil ?_
      refine AQ.thenN ?_
      refine AW.seq ?_
      refine AW.regionD 39 (by kernel_rfl) (by kernel_rfl) ?_
      simp only [List.take_succ_cons, List.take_zero, List.drop_succ_cons, List.drop_zero]
      refine FA.op (O.fieldAddr rfl rfl) rfl rfl rfl rfl ?_
      refine FA.op (O.load rfl rfl (by repeat (exact List.Mem.head _)) (by rfl)) rfl rfl rfl rfl ?_
      refine FA.op (O.move rfl rfl) rfl rfl rfl rfl ?_
      refine FA.op (O.move rfl rfl) rfl rfl rfl rfl ?_
      refine FA.op (O.idxR rfl rfl rfl ⟨(by omega), (by omega)⟩) rfl rfl rfl rfl ?_
      refine FA.op (O.fieldAddrR rfl rfl) rfl rfl rfl rfl ?_
      refine FA.op (O.loadR rfl rfl (by assumption)) rfl rfl rfl rfl ?_
      refine FA.op (O.neq rfl rfl rfl (by exact bne_eq_false_iff_eq.2 (by omega))) rfl rfl rfl rfl ?_
      refine FA.op (O.move rfl rfl) rfl rfl rfl rfl ?_
      refine FA.opG rfl rfl rfl rfl (fun hp => O.fieldAddr rfl rfl) ?_
      refine FA.opG rfl rfl rfl rfl (fun hp => OpW.force 28 rfl (by exact hp) (O.load rfl rfl (by repeat (exact List.Mem.head _)) (by rfl))) ?_
      refine FA.opG rfl rfl rfl rfl (fun hp => O.move rfl rfl) ?_
      refine FA.opG rfl rfl rfl rfl (fun hp => O.move rfl rfl) ?_
      refine FA.opG rfl rfl rfl rfl (fun hp => OpW.force 30 rfl (by exact hp) (OpW.force 31 rfl (by exact hp) (O.idxR rfl rfl rfl ⟨(by omega), (by omega)⟩))) ?_
      refine FA.opG rfl rfl rfl rfl (fun hp => OpW.force 32 rfl (by exact hp) (O.fieldAddrR rfl rfl)) ?_
      refine FA.opG rfl rfl rfl rfl (fun hp => OpW.force 33 rfl (by exact hp) (O.loadR rfl rfl (by assumption))) ?_
      refine FA.opG rfl rfl rfl rfl (fun hp => OpW.force 29 rfl (by exact hp) (OpW.force 34 rfl (by exact hp) (O.neq rfl rfl rfl (by exact bne_eq_false_iff_eq.2 (by omega))))) ?_
      refine FA.op (O.pickOr rfl rfl rfl rfl (fun h => by exact congrArg (fun b => !b) h)) rfl rfl rfl rfl ?_
      refine FA.op (O.move rfl rfl) rfl rfl rfl rfl ?_
      refine FA.opG rfl rfl rfl rfl (fun hp => O.fieldAddr rfl rfl) ?_
      refine FA.opG rfl rfl rfl rfl (fun hp => OpW.force 38 rfl (by exact hp) (O.load rfl rfl (by repeat (exact List.Mem.head _)) (by rfl))) ?_
      refine FA.opG rfl rfl rfl rfl (fun hp => O.move rfl rfl) ?_
      refine FA.opG rfl rfl rfl rfl (fun hp => O.move rfl rfl) ?_
      refine FA.opG rfl rfl rfl rfl (fun hp => OpW.force 40 rfl (by exact hp) (OpW.force 41 rfl (by exact hp) (O.idxR rfl rfl rfl ⟨(by omega), (by omega)⟩))) ?_
      refine FA.opG rfl rfl rfl rfl (fun hp => OpW.force 42 rfl (by exact hp) (O.fieldAddrR rfl rfl)) ?_
      refine FA.opG rfl rfl rfl rfl (fun hp => OpW.force 43 rfl (by exact hp) (O.loadR rfl rfl (by assumption))) ?_
      refine FA.opG rfl rfl rfl rfl (fun hp => OpW.force 39 rfl (by exact hp) (OpW.force 44 rfl (by exact hp) (O.neq rfl rfl rfl (by exact bne_eq_false_iff_eq.2 (by omega))))) ?_
      refine FA.op (O.pickOr rfl rfl rfl rfl (fun h => by exact congrArg (fun b => !b) h)) rfl rfl rfl rfl ?_
      refine FA.op (O.move rfl rfl) rfl rfl rfl rfl ?_
      refine FA.opG rfl rfl rfl rfl (fun hp => O.fieldAddr rfl rfl) ?_
      refine FA.opG rfl rfl rfl rfl (fun hp => OpW.force 48 rfl (by exact hp) (O.loadK rfl rfl (by repeat (exact List.Mem.head _)) (by rfl) (by rfl))) ?_
      refine FA.opG rfl rfl rfl rfl (fun hp => O.move rfl rfl) ?_
      refine FA.opG rfl rfl rfl rfl (fun hp => O.move rfl rfl) ?_
      refine FA.opG rfl rfl rfl rfl (fun hp => OpW.force 50 rfl (by exact hp) (OpW.force 51 rfl (by exact hp) (O.idxR rfl rfl rfl ⟨(by omega), (by omega)⟩))) ?_
      refine FA.opG rfl rfl rfl rfl (fun hp => OpW.force 52 rfl (by exact hp) (O.fieldAddrR rfl rfl)) ?_
      refine FA.opG rfl rfl rfl rfl (fun hp => OpW.force 53 rfl (by exact hp) (O.loadRK rfl rfl (by exact hgm) (by rfl))) ?_
      refine FA.opG rfl rfl rfl rfl (fun hp => OpW.force 49 rfl (by exact hp) (OpW.force 54 rfl (by exact hp) (O.call rfl Try.func21 rfl rfl rfl (same_fn _ _ hbd)))) ?_
      refine FA.opG rfl rfl rfl rfl (fun hp => OpW.force 55 rfl (by exact hp) (O.not rfl rfl (by rfl))) ?_
      refine FA.op (O.pickOr rfl rfl rfl rfl (fun h => by exact congrArg (fun b => !b) h)) rfl rfl rfl rfl ?_
      refine FA.nil ?_
      simp only [chosen, List.nil_append, List.cons_append, List.append_nil]
      refine AO.nil ?_
      refine AQ.thenN ?_
      refine AW.split rfl (fun h57 => ?_) (fun h57 => ?_) <;> (try simp only [decide_eq_true_eq, decide_eq_false_iff_not, beq_iff_eq, beq_eq_false_iff_ne, bne_iff_ne, bne_eq_false_iff_eq, Bool.not_eq_true', Bool.not_eq_false', Bool.not_eq_true, Bool.not_eq_false, ne_eq, Int.not_lt, Int.not_le, Bool.and_eq_true, Bool.or_eq_true, Bool.or_eq_false_iff, Bool.and_eq_false_imp, strOf_toList, Decidable.not_not] at h57)
      · skip
        exact absurd h57 (by simp)
      · skip
        refine AW.skip ?_
        refine AQ.blockN ?_
        refine AQ.thenN ?_
        refine AW.region ?_
        refine AO.op (O.add rfl rfl rfl (by exact wI64 (by omega))) rfl rfl rfl ?_
        refine AO.op (O.move rfl rfl) rfl rfl rfl ?_
        refine AO.nil ?_
        refine AQ.loopKN _ _ _ (by omega) (⟨k + 1, by omega, rfl, rfl, rfl⟩) (by repeat (first | exact envNil | refine envCons rfl ?_)) (by repeat (first | exact envNil | refine envCons rfl ?_)) (by repeat (exact subPnil))
    · skip
      refine AW.exit ?_
      refine AQ.thenX ?_
      refine AQ.loopX ?_
      refine AQ.blockX rfl ?_
      refine AQ.thenN ?_
      refine AW.seq ?_
      refine AW.region ?_
      refine AO.op (O.assign rfl rfl) rfl rfl rfl ?_
      refine AO.nil ?_
      refine AQ.thenN ?_
      refine AW.ret ?_
      refine AQ.ret1 rfl rfl ⟨_, List.nil_sublist _, .nil⟩ (⟨rfl, rfl⟩)
structure CmpE (e : Ep) : Prop where
  o : CmpW e.out
  u : e.used.length ≤ 1000000
  i : e.inn.length ≤ 1000000
  m : ∀ h ∈ e.inn, h.m.opts.length ≤ 140737488355328
theorem us_neq (a b c : Int) (W : World) : (binOp .neq 60 (.agg [.int .i64 a, .int .i64 b, .int .i64 c].toArray) (.agg [.int .i64 a, .int .i64 b, .int .i64 c].toArray)).run Try.prog W = .ok (.bool false) W := by
  simp [go_sem]
set_option maxHeartbeats 4000000 in
theorem sameE_fn (e : Ep) (h : CmpE e) : Sp Try.prog 20 [aggE e, aggE e] [] (Is (.val (.bool true))) := by
  obtain ⟨ho, hu, hi, hm⟩ := h
  refine Sp.enter Try.func20 rfl _ Try.ntmps20 rfl (fun w0 R0 => ?_)
  refine AW.seq ?_
  refine AW.region ?_
  refine AO.opB (O.box rfl rfl rfl rfl rfl) rfl rfl rfl ?_
  intro B1
  refine AO.opB (O.box rfl rfl rfl rfl rfl) rfl rfl rfl ?_
  intro B2
  refine AO.op (O.assign rfl rfl) rfl rfl rfl ?_
  refine AO.nil ?_
  refine AQ.thenN ?_
  refine AW.seq ?_
  refine AW.seq ?_
  refine AW.region ?_
  refine AO.op (O.fieldAddr rfl rfl) rfl rfl rfl ?_
  refine AO.op (O.load rfl rfl (by repeat (first | exact List.Mem.head _ | refine List.Mem.tail _ ?_)) (by rfl)) rfl rfl rfl ?_
  refine AO.op (O.fieldAddr rfl rfl) rfl rfl rfl ?_
  refine AO.op (O.load rfl rfl (by repeat (exact List.Mem.head _)) (by rfl)) rfl rfl rfl ?_
  refine AO.op (O.neq rfl rfl rfl (by exact bne_eq_false_iff_eq.2 (by omega))) rfl rfl rfl ?_
  refine AO.op (O.move rfl rfl) rfl rfl rfl ?_
  refine AO.opG rfl rfl rfl (fun hp => O.fieldAddr rfl rfl) ?_
  refine AO.opG rfl rfl rfl (fun hp => OpW.force 16 rfl (by exact hp) (O.load rfl rfl (by repeat (first | exact List.Mem.head _ | refine List.Mem.tail _ ?_)) (by rfl))) ?_
  refine AO.opG rfl rfl rfl (fun hp => O.fieldAddr rfl rfl) ?_
  refine AO.opG rfl rfl rfl (fun hp => OpW.force 18 rfl (by exact hp) (O.load rfl rfl (by repeat (exact List.Mem.head _)) (by rfl))) ?_
  refine AO.opG rfl rfl rfl (fun hp => OpW.force 17 rfl (by exact hp) (OpW.force 19 rfl (by exact hp) (O.call rfl Try.func52 rfl rfl rfl (sameW_fn _ (by assumption))))) ?_
  refine AO.opG rfl rfl rfl (fun hp => OpW.force 20 rfl (by exact hp) (O.not rfl rfl (by rfl))) ?_
  refine AO.op (O.pickOr rfl rfl rfl rfl (fun h => by exact congrArg (fun b => !b) h)) rfl rfl rfl ?_
  refine AO.op (O.move rfl rfl) rfl rfl rfl ?_
  refine AO.opG rfl rfl rfl (fun hp => O.fieldAddr rfl rfl) ?_
  refine AO.opG rfl rfl rfl (fun hp => OpW.force 24 rfl (by exact hp) (O.load rfl rfl (by repeat (first | exact List.Mem.head _ | refine List.Mem.tail _ ?_)) (by rfl))) ?_
  refine AO.opG rfl rfl rfl (fun hp => OpW.force 25 rfl (by exact hp) (O.lenR rfl rfl)) ?_
  refine AO.opG rfl rfl rfl (fun hp => O.fieldAddr rfl rfl) ?_
  refine AO.opG rfl rfl rfl (fun hp => OpW.force 27 rfl (by exact hp) (O.load rfl rfl (by repeat (exact List.Mem.head _)) (by rfl))) ?_
  refine AO.opG rfl rfl rfl (fun hp => OpW.force 28 rfl (by exact hp) (O.lenR rfl rfl)) ?_
  refine AO.opG rfl rfl rfl (fun hp => OpW.force 26 rfl (by exact hp) (OpW.force 29 rfl (by exact hp) (O.neq rfl rfl rfl (by exact bne_eq_false_iff_eq.2 (by omega))))) ?_
  refine AO.op (O.pickOr rfl rfl rfl rfl (fun h => by exact congrArg (fun b => !b) h)) rfl rfl rfl ?_
  refine AO.op (O.move rfl rfl) rfl rfl rfl ?_
  refine AO.opG rfl rfl rfl (fun hp => O.fieldAddr rfl rfl) ?_
  refine AO.opG rfl rfl rfl (fun hp => OpW.force 33 rfl (by exact hp) (O.load rfl rfl (by repeat (first | exact List.Mem.head _ | refine List.Mem.tail _ ?_)) (by rfl))) ?_
  refine AO.opG rfl rfl rfl (fun hp => OpW.force 34 rfl (by exact hp) (O.lenR rfl rfl)) ?_
  refine AO.opG rfl rfl rfl (fun hp => O.fieldAddr rfl rfl) ?_
  refine AO.opG rfl rfl rfl (fun hp => OpW.force 36 rfl (by exact hp) (O.load rfl rfl (by repeat (exact List.Mem.head _)) (by rfl))) ?_
  refine AO.opG rfl rfl rfl (fun hp => OpW.force 37 rfl (by exact hp) (O.lenR rfl rfl)) ?_
  refine AO.opG rfl rfl rfl (fun hp => OpW.force 35 rfl (by exact hp) (OpW.force 38 rfl (by exact hp) (O.neq rfl rfl rfl (by exact bne_eq_false_iff_eq.2 (by omega))))) ?_
  refine AO.op (O.pickOr rfl rfl rfl rfl (fun h => by exact congrArg (fun b => !b) h)) rfl rfl rfl ?_
  refine AO.nil ?_
  refine AQ.thenN ?_
  refine AW.split rfl (fun h => ?_) (fun h => ?_) <;> (try simp only [decide_eq_true_eq, decide_eq_false_iff_not, beq_iff_eq, beq_eq_false_iff_ne, bne_iff_ne, bne_eq_false_iff_eq, Bool.not_eq_true', Bool.not_eq_false', Bool.not_eq_true, Bool.not_eq_false, ne_eq, Int.not_lt, Int.not_le, Bool.and_eq_true, Bool.or_eq_true, Bool.or_eq_false_iff, Bool.and_eq_false_imp, strOf_toList, Decidable.not_not] at h)
  · skip
    exact absurd h (by simp)
  · skip
    refine AW.skip ?_
    refine AQ.thenN ?_
    refine AW.seq ?_
    refine AW.seq ?_
    refine AW.region ?_
    refine AO.op (O.fieldAddr rfl rfl) rfl rfl rfl ?_
    refine AO.op (O.load rfl rfl (by repeat (first | exact List.Mem.head _ | refine List.Mem.tail _ ?_)) (by rfl)) rfl rfl rfl ?_
    refine AO.op (O.lenR rfl rfl) rfl rfl rfl ?_
    refine AO.op (O.move rfl rfl) rfl rfl rfl ?_
    refine AO.nil ?_
    refine AQ.thenN ?_
    refine AW.block ?_
    refine AW.loopK [(2, _), (3, _), (42, _), (43, _)] (fun nn E H => ∃ (k : Nat), (k ≤ e.used.length) ∧ nn = e.used.length - k ∧ E = [(44, .val (.int .i64 (k : Int)))] ∧ H = [.blk B2 26 4 [.val (.int .i64 e.next), roW e.out, roU e.used, roH e.inn], .blk B1 26 4 [.val (.int .i64 e.next), roW e.out, roU e.used, roH e.inn]]) _ (⟨0, by omega, rfl, rfl, rfl⟩) (by repeat (first | exact envNil | refine envCons rfl ?_)) (by repeat (first | exact envNil | refine envCons rfl ?_)) (by repeat (first | exact subPnil | refine subPcons 0 rfl ?_)) ?_
    rintro nn E H ⟨k, hk1, rfl, rfl, rfl⟩
    dsimp only [List.cons_append, List.nil_append]
    refine AW.seq ?_
    refine AW.region ?_
    refine AO.op (O.lss rfl rfl rfl (by rfl)) rfl rfl rfl ?_
    refine AO.nil ?_
    refine AQ.thenN ?_
    refine AW.seq ?_
    refine AW.split rfl (fun hlt => ?_) (fun hlt => ?_) <;> (try simp only [decide_eq_true_eq, decide_eq_false_iff_not, beq_iff_eq, beq_eq_false_iff_ne, bne_iff_ne, bne_eq_false_iff_eq, Bool.not_eq_true', Bool.not_eq_false', Bool.not_eq_true, Bool.not_eq_false, ne_eq, Int.not_lt, Int.not_le, Bool.and_eq_true, Bool.or_eq_true, Bool.or_eq_false_iff, Bool.and_eq_false_imp, strOf_toList, Decidable.not_not] at hlt)
    · skip
      have hk : k < e.used.length := by omega
      refine AW.skip ?_
      refine AQ.thenN ?_
      refine AW.seq ?_
      refine AW.block ?_
      refine AW.seq ?_
      refine AW.region ?_
      refine AO.op (O.move rfl rfl) rfl rfl rfl ?_
      refine AO.op (O.idxR rfl rfl rfl ⟨(by omega), (by omega)⟩) rfl rfl rfl ?_
      refine AO.op (O.loadRK rfl rfl (by exact getU (by omega) (by omega)) (by rfl)) rfl rfl rfl ?_
      refine AO.opB (O.alloc rfl (by (dsimp only [zerosA, List.replicate, List.append, List.flatten, AV.cells, Value.cells, List.toList_toArray, List.map]; done)) (by rfl)) rfl rfl rfl ?_
      intro B3
      refine AO.op (O.assign rfl rfl) rfl rfl rfl ?_
      (refine AO.store (i := 0) rfl rfl rfl rfl rfl rfl (by rfl) (by rfl) (by rfl) (by (dsimp only [List.set, List.cons_append, List.nil_append, List.take, List.drop]; done)) (by (dsimp only [List.set, List.cons_append, List.nil_append, List.take, List.drop]; done)) ?_)
      refine AO.nil ?_
      refine AQ.thenN ?_
      refine AW.seq ?_
      refine AW.regionD 7 (by kernel_rfl) (by kernel_rfl) ?_
      simp only [List.take_succ_cons, List.take_zero, List.drop_succ_cons, List.drop_zero]
      refine FA.op (O.loadK rfl rfl (by repeat (exact List.Mem.head _)) (by rfl) (by rfl)) rfl rfl rfl rfl ?_
      refine FA.op (O.fieldAddr rfl rfl) rfl rfl rfl rfl ?_
      refine FA.op (O.load rfl rfl (by repeat (first | exact List.Mem.head _ | refine List.Mem.tail _ ?_)) (by rfl)) rfl rfl rfl rfl ?_
      refine FA.op (O.move rfl rfl) rfl rfl rfl rfl ?_
      refine FA.op (O.idxR rfl rfl rfl ⟨(by omega), (by omega)⟩) rfl rfl rfl rfl ?_
      refine FA.op (O.loadRK rfl rfl (by exact getU (by omega) (by omega)) (by rfl)) rfl rfl rfl rfl ?_
      refine FA.op (O.binAgg rfl rfl rfl rfl rfl (by kernel_rfl) (us_neq _ _ _)) rfl rfl rfl rfl ?_
      refine FA.nil ?_
      simp only [chosen, List.nil_append, List.cons_append, List.append_nil]
      refine AO.nil ?_
      refine AQ.thenN ?_
      refine AW.split rfl (fun h57 => ?_) (fun h57 => ?_)
      · skip
        exact absurd h57 (by simp)
      · skip
        refine AW.skip ?_
        refine AQ.blockN ?_
        refine AQ.thenN ?_
        refine AW.region ?_
        refine AO.op (O.add rfl rfl rfl (by exact wI64 (by omega))) rfl rfl rfl ?_
        refine AO.op (O.move rfl rfl) rfl rfl rfl ?_
        refine AO.nil ?_
        refine AQ.loopKN _ _ _ (by omega) (⟨k + 1, by omega, rfl, rfl, rfl⟩) (by repeat (first | exact envNil | refine envCons rfl ?_)) (by repeat (first | exact envNil | refine envCons rfl ?_)) (by repeat (first | exact subPnil | refine subPcons 1 rfl ?_))
    · skip
      refine AW.exit ?_
      refine AQ.thenX ?_
      refine AQ.loopX ?_
      refine AQ.blockX rfl ?_
      refine AQ.thenN ?_
      refine AW.seq ?_
      refine AW.seq ?_
      refine AW.region ?_
      refine AO.op (O.fieldAddr rfl rfl) rfl rfl rfl ?_
      refine AO.op (O.load rfl rfl (by repeat (first | exact List.Mem.head _ | refine List.Mem.tail _ ?_)) (by rfl)) rfl rfl rfl ?_
      refine AO.op (O.lenR rfl rfl) rfl rfl rfl ?_
      refine AO.op (O.move rfl rfl) rfl rfl rfl ?_
      refine AO.nil ?_
      refine AQ.thenN ?_
      refine AW.block ?_
      refine AW.loopK [(3, _), (58, _), (59, _)] (fun nn E H => ∃ (k : Nat), (k ≤ e.inn.length) ∧ nn = e.inn.length - k ∧ E = [(60, .val (.int .i64 (k : Int)))] ∧ H = [.blk B2 26 4 [.val (.int .i64 e.next), roW e.out, roU e.used, roH e.inn]]) _ (⟨0, by omega, rfl, rfl, rfl⟩) (by repeat (first | exact envNil | refine envCons rfl ?_)) (by repeat (first | exact envNil | refine envCons rfl ?_)) (by repeat (first | exact subPnil | refine subPcons 0 rfl ?_)) ?_
      rintro nn E H ⟨k, hk1, rfl, rfl, rfl⟩
      dsimp only [List.cons_append, List.nil_append]
      refine AW.seq ?_
      refine AW.region ?_
      refine AO.op (O.lss rfl rfl rfl (by rfl)) rfl rfl rfl ?_
      refine AO.nil ?_
      refine AQ.thenN ?_
      refine AW.seq ?_
      refine AW.split rfl (fun hlt => ?_) (fun hlt => ?_) <;> (try simp only [decide_eq_true_eq, decide_eq_false_iff_not, beq_iff_eq, beq_eq_false_iff_ne, bne_iff_ne, bne_eq_false_iff_eq, Bool.not_eq_true', Bool.not_eq_false', Bool.not_eq_true, Bool.not_eq_false, ne_eq, Int.not_lt, Int.not_le, Bool.and_eq_true, Bool.or_eq_true, Bool.or_eq_false_iff, Bool.and_eq_false_imp, strOf_toList, Decidable.not_not] at hlt)
      · skip
        have hk : k < e.inn.length := by omega
        have hbd := hm _ (getD_mem Hd.none hk)
        refine AW.skip ?_
        refine AQ.thenN ?_
        refine AW.seq ?_
        refine AW.block ?_
        refine AW.seq ?_
        refine AW.region ?_
        refine AO.op (O.move rfl rfl) rfl rfl rfl ?_
        refine AO.op (O.idxR rfl rfl rfl ⟨(by omega), (by omega)⟩) rfl rfl rfl ?_
        refine AO.op (O.loadRK rfl rfl (by exact getH (by omega) (by omega)) (by rfl)) rfl rfl rfl ?_
        refine AO.opB (O.alloc rfl (by (dsimp only [zerosA, List.replicate, List.append, List.flatten, AV.cells, Value.cells, List.toList_toArray, List.map]; done)) (by rfl)) rfl rfl rfl ?_
        intro B4
        refine AO.op (O.assign rfl rfl) rfl rfl rfl ?_
        (refine AO.store (i := 0) rfl rfl rfl rfl rfl rfl (by rfl) (by rfl) (by rfl) (by (dsimp only [List.set, List.cons_append, List.nil_append, List.take, List.drop]; done)) (by (dsimp only [List.set, List.cons_append, List.nil_append, List.take, List.drop]; done)) ?_)
        refine AO.nil ?_
        refine AQ.thenN ?_
        refine AW.seq ?_
        refine AW.region ?_
        refine AO.op (O.fieldAddr rfl rfl) rfl rfl rfl ?_
        refine AO.op (O.load rfl rfl (by repeat (first | exact List.Mem.head _ | refine List.Mem.tail _ ?_)) (by rfl)) rfl rfl rfl ?_
        refine AO.op (O.move rfl rfl) rfl rfl rfl ?_
        refine AO.op (O.idxR rfl rfl rfl ⟨(by omega), (by omega)⟩) rfl rfl rfl ?_
        refine AO.op (O.loadRK rfl rfl (by exact getH (by omega) (by omega)) (by rfl)) rfl rfl rfl ?_
        refine AO.opB (O.alloc rfl (by (dsimp only [zerosA, List.replicate, List.append, List.flatten, AV.cells, Value.cells, List.toList_toArray, List.map]; done)) (by rfl)) rfl rfl rfl ?_
        intro B5
        (refine AO.store (i := 0) rfl rfl rfl rfl rfl rfl (by rfl) (by rfl) (by rfl) (by (dsimp only [List.set, List.cons_append, List.nil_append, List.take, List.drop]; done)) (by (dsimp only [List.set, List.cons_append, List.nil_append, List.take, List.drop]; done)) ?_)
        refine AO.nil ?_
        refine AQ.thenN ?_
        refine AW.seq ?_
        refine AW.region ?_
        refine AO.op (O.fieldAddr rfl rfl) rfl rfl rfl ?_
        refine AO.op (O.load rfl rfl (by repeat (first | exact List.Mem.head _ | refine List.Mem.tail _ ?_)) (by rfl)) rfl rfl rfl ?_
        refine AO.op (O.fieldAddr rfl rfl) rfl rfl rfl ?_
        refine AO.op (O.load rfl rfl (by repeat (exact List.Mem.head _)) (by rfl)) rfl rfl rfl ?_
        refine AO.op (O.neq rfl rfl rfl (by exact bne_eq_false_iff_eq.2 (by omega))) rfl rfl rfl ?_
        refine AO.op (O.move rfl rfl) rfl rfl rfl ?_
        refine AO.opG rfl rfl rfl (fun hp => O.fieldAddr rfl rfl) ?_
        refine AO.opG rfl rfl rfl (fun hp => OpW.force 76 rfl (by exact hp) (O.load rfl rfl (by repeat (first | exact List.Mem.head _ | refine List.Mem.tail _ ?_)) (by rfl))) ?_
        refine AO.opG rfl rfl rfl (fun hp => O.fieldAddr rfl rfl) ?_
        refine AO.opG rfl rfl rfl (fun hp => OpW.force 78 rfl (by exact hp) (O.load rfl rfl (by repeat (exact List.Mem.head _)) (by rfl))) ?_
        refine AO.opG rfl rfl rfl (fun hp => OpW.force 77 rfl (by exact hp) (OpW.force 79 rfl (by exact hp) (O.neq rfl rfl rfl (by exact bne_eq_false_iff_eq.2 (by omega))))) ?_
        refine AO.op (O.pickOr rfl rfl rfl rfl (fun h => by exact congrArg (fun b => !b) h)) rfl rfl rfl ?_
        refine AO.op (O.move rfl rfl) rfl rfl rfl ?_
        refine AO.opG rfl rfl rfl (fun hp => O.fieldAddr rfl rfl) ?_
        refine AO.opG rfl rfl rfl (fun hp => OpW.force 83 rfl (by exact hp) (O.load rfl rfl (by repeat (first | exact List.Mem.head _ | refine List.Mem.tail _ ?_)) (by rfl))) ?_
        refine AO.opG rfl rfl rfl (fun hp => O.fieldAddr rfl rfl) ?_
        refine AO.opG rfl rfl rfl (fun hp => OpW.force 85 rfl (by exact hp) (O.load rfl rfl (by repeat (exact List.Mem.head _)) (by rfl))) ?_
        refine AO.opG rfl rfl rfl (fun hp => OpW.force 84 rfl (by exact hp) (OpW.force 86 rfl (by exact hp) (O.neq rfl rfl rfl (by exact bne_eq_false_iff_eq.2 (by omega))))) ?_
        refine AO.op (O.pickOr rfl rfl rfl rfl (fun h => by exact congrArg (fun b => !b) h)) rfl rfl rfl ?_
        refine AO.op (O.move rfl rfl) rfl rfl rfl ?_
        refine AO.opG rfl rfl rfl (fun hp => O.fieldAddr rfl rfl) ?_
        refine AO.opG rfl rfl rfl (fun hp => OpW.force 90 rfl (by exact hp) (O.load rfl rfl (by repeat (first | exact List.Mem.head _ | refine List.Mem.tail _ ?_)) (by rfl))) ?_
        refine AO.opG rfl rfl rfl (fun hp => O.fieldAddr rfl rfl) ?_
        refine AO.opG rfl rfl rfl (fun hp => OpW.force 92 rfl (by exact hp) (O.load rfl rfl (by repeat (exact List.Mem.head _)) (by rfl))) ?_
        refine AO.opG rfl rfl rfl (fun hp => OpW.force 91 rfl (by exact hp) (OpW.force 93 rfl (by exact hp) (O.neqB rfl rfl rfl (by rfl)))) ?_
        refine AO.op (O.pickOr rfl rfl rfl rfl (fun h => by exact congrArg (fun b => !b) h)) rfl rfl rfl ?_
        refine AO.op (O.move rfl rfl) rfl rfl rfl ?_
        refine AO.opG rfl rfl rfl (fun hp => O.fieldAddr rfl rfl) ?_
        refine AO.opG rfl rfl rfl (fun hp => OpW.force 97 rfl (by exact hp) (O.loadK rfl rfl (by repeat (first | exact List.Mem.head _ | refine List.Mem.tail _ ?_)) (by rfl) (by rfl))) ?_
        refine AO.opG rfl rfl rfl (fun hp => O.fieldAddr rfl rfl) ?_
        refine AO.opG rfl rfl rfl (fun hp => OpW.force 99 rfl (by exact hp) (O.loadK rfl rfl (by repeat (exact List.Mem.head _)) (by rfl) (by rfl))) ?_
        refine AO.opG rfl rfl rfl (fun hp => OpW.force 98 rfl (by exact hp) (OpW.force 100 rfl (by exact hp) (O.call rfl Try.func21 rfl rfl rfl (same_fn _ _ hbd)))) ?_
        refine AO.opG rfl rfl rfl (fun hp => OpW.force 101 rfl (by exact hp) (O.not rfl rfl (by rfl))) ?_
        refine AO.op (O.pickOr rfl rfl rfl rfl (fun h => by exact congrArg (fun b => !b) h)) rfl rfl rfl ?_
        refine AO.nil ?_
        refine AQ.thenN ?_
        refine AW.split rfl (fun h57 => ?_) (fun h57 => ?_) <;> (try simp only [decide_eq_true_eq, decide_eq_false_iff_not, beq_iff_eq, beq_eq_false_iff_ne, bne_iff_ne, bne_eq_false_iff_eq, Bool.not_eq_true', Bool.not_eq_false', Bool.not_eq_true, Bool.not_eq_false, ne_eq, Int.not_lt, Int.not_le, Bool.and_eq_true, Bool.or_eq_true, Bool.or_eq_false_iff, Bool.and_eq_false_imp, strOf_toList, Decidable.not_not] at h57)
        · skip
          exact absurd h57 (by simp)
        · skip
          refine AW.skip ?_
          refine AQ.blockN ?_
          refine AQ.thenN ?_
          refine AW.region ?_
          refine AO.op (O.add rfl rfl rfl (by exact wI64 (by omega))) rfl rfl rfl ?_
          refine AO.op (O.move rfl rfl) rfl rfl rfl ?_
          refine AO.nil ?_
          refine AQ.loopKN _ _ _ (by omega) (⟨k + 1, by omega, rfl, rfl, rfl⟩) (by repeat (first | exact envNil | refine envCons rfl ?_)) (by repeat (first | exact envNil | refine envCons rfl ?_)) (by repeat (first | exact subPnil | refine subPcons 2 rfl ?_))
      · skip
        refine AW.exit ?_
        refine AQ.thenX ?_
        refine AQ.loopX ?_
        refine AQ.blockX rfl ?_
        refine AQ.thenN ?_
        refine AW.seq ?_
        refine AW.region ?_
        refine AO.op (O.assign rfl rfl) rfl rfl rfl ?_
        refine AO.nil ?_
        refine AQ.thenN ?_
        refine AW.ret ?_
        refine AQ.ret1 rfl rfl ⟨_, List.nil_sublist _, .nil⟩ (⟨rfl, rfl⟩)
end Go.Proofs.Ytdnmilmcdbgppaa.By

namespace Go.Proofs.Ytdnmilmcdbgppaa.By
open Go.RowKit L A
set_option linter.unusedVariables false
set_option maxRecDepth 20000
set_option linter.unusedSimpArgs false
attribute [local irreducible] AW AQ AO
theorem AscO_val : ∀ {l : Int} {os : List Opt}, AscO l os → ∀ o ∈ os, (o.val.length : Int) ≤ 1034
  | l, [], _, o, ho => by simp at ho
  | l, p :: os, h, o, ho => by
    obtain ⟨k, hk, rfl⟩ := List.getElem_of_mem ho
    have := (AscO_at h hk).2.2
    rw [show oat (p :: os) k = (p :: os)[k] by simp only [oat, List.getD_eq_getElem?_getD, List.getElem?_eq_getElem hk, Option.getD_some]] at this
    exact this
theorem ValM.sm {m : Msg} (h : ValM m) : SmM m := by
  obtain ⟨⟨_, ⟨_, _, h1, h2⟩, h3, _, _, h4⟩, _⟩ := h
  exact ⟨by omega, by omega, by omega, fun o ho => by have := AscO_val h3 o ho; omega⟩
theorem none_sm : SmM Msg.none := ⟨by simp [Msg.none], by simp [Msg.none], by simp [Msg.none], by simp [Msg.none]⟩
theorem OkH.sm {h : Hd} (hh : OkH h) : SmM h.m := by
  obtain ⟨_, _, _, h1, h2⟩ := hh
  cases ha : h.ans with
  | true => exact (h1 ha).sm
  | false => rw [h2 ha]; exact none_sm
theorem ValE.sm {e : Ep} (h : ValE e) : SmE e := by
  obtain ⟨_, h2, h3, h4, h5, _, _, h8, _⟩ := h
  exact ⟨by omega, by omega, by omega, fun w hw => (h5 w hw).2.2.1.sm, fun x hx => OkH.sm (h8 x hx)⟩
theorem cleanE_out (e : Ep) (now : Int) : (cleanE e now).out = e.out := rfl
theorem clean_used (e : Ep) (now : Int) : (cleanE e now).used.length ≤ e.used.length := List.length_filter_le _ _
theorem clean_inn (e : Ep) (now : Int) : (cleanE e now).inn.length ≤ e.inn.length := List.length_filter_le _ _
abbrev SendOk (e : Ep) (p : Int) (m : Msg) (now : Int) : Prop := ValE e ∧ TimeOk now ∧ PeerOk p ∧ ValM m ∧ (m.ty = 0 ∨ m.ty = 1)
abbrev SendFull (c : Ep) (m : Msg) : Prop := 32 ≤ c.used.length ∨ (m.ty = 0 ∧ 16 ≤ c.out.length)
def sentE (c : Ep) (p : Int) (m : Msg) (now id : Int) : Ep := ⟨(id + 1) % 65536, if m.ty = 0 then c.out ++ [⟨p, { m with id := id }, now + 2, 1⟩] else c.out, c.used ++ [⟨p, id, now + 128⟩], c.inn⟩
def sendR (e : Ep) (p : Int) (m : Msg) (now : Int) : Ep × Msg × Int :=
  if SendOk e p m now then
    if SendFull (cleanE e now) m then (Ep.none, Msg.none, 16)
    else (sentE (cleanE e now) p m now (freeI (cleanE e now).out (cleanE e now).used p e.next), { m with id := freeI (cleanE e now).out (cleanE e now).used p e.next }, 0)
  else (Ep.none, Msg.none, 1)
abbrev resS (r : Ep × Msg × Int) : AV := .tup [aggE r.1, aggM r.2.1, .val (.int .i64 r.2.2)]
theorem ret3S {q : AV} {r : Ep × Msg × Int} {a : Ep} {b : Msg} {c : Int} (h : r = (a, b, c)) (hq : q = .tup [aggE a, aggM b, .val (.int .i64 c)]) : Is (resS r) q [] := by subst h; exact ⟨hq, rfl⟩
theorem aggE_of {e : Ep} {n1 n2 n3 : Nat} {x1 x2 x3 : List AV} (h1 : n1 = e.out.length) (g1 : x1 = wtsA e.out) (h2 : n2 = e.used.length) (g2 : x2 = ussA e.used) (h3 : n3 = e.inn.length) (g3 : x3 = hdsA e.inn) : AV.agg [.val (.int .i64 e.next), .ro false n1 x1, .ro false n2 x2, .ro false n3 x3] = aggE e := by subst h1 g1 h2 g2 h3 g3; rfl
theorem sentE_con {c : Ep} {p : Int} {m : Msg} {now id : Int} (h : m.ty = 0) : sentE c p m now id = ⟨(id + 1) % 65536, c.out ++ [⟨p, { m with id := id }, now + 2, 1⟩], c.used ++ [⟨p, id, now + 128⟩], c.inn⟩ := by rw [sentE, if_pos h]
theorem sentE_non {c : Ep} {p : Int} {m : Msg} {now id : Int} (h : ¬m.ty = 0) : sentE c p m now id = ⟨(id + 1) % 65536, c.out, c.used ++ [⟨p, id, now + 128⟩], c.inn⟩ := by rw [sentE, if_neg h]
theorem snoc_len {α : Type} (l : List α) (a : α) : l.length + 1 = (l ++ [a]).length := by rw [List.length_append]; rfl
theorem aggE_tup {x y : AV} (h : x = y) (r : List AV) : AV.tup (x :: r) = AV.tup (y :: r) := by rw [h]
set_option maxHeartbeats 4000000 in
theorem send_fn (e : Ep) (p : Int) (m : Msg) (now : Int) (hb : BdE e) : Sp Try.prog 18 [aggE e, .val (.int .i64 p), aggM m, .val (.int .i64 now)] [] (Is (resS (sendR e p m now))) := by
  refine Sp.enter Try.func18 rfl _ Try.ntmps18 rfl (fun w0 R0 => ?_)
  refine AW.seq ?_
  refine AW.region ?_
  refine AO.opB (O.box rfl rfl rfl rfl rfl) rfl rfl rfl ?_
  intro B1
  refine AO.opB (O.box rfl rfl rfl rfl rfl) rfl rfl rfl ?_
  intro B2
  refine AO.opB (O.alloc rfl (by (dsimp only [zerosA, List.replicate, List.append, List.flatten, AV.cells, Value.cells, List.toList_toArray, List.map]; done)) (by rfl)) rfl rfl rfl ?_
  intro B3
  refine AO.opB (O.alloc rfl (by (dsimp only [zerosA, List.replicate, List.append, List.flatten, AV.cells, Value.cells, List.toList_toArray, List.map]; done)) (by rfl)) rfl rfl rfl ?_
  intro B4
  refine AO.op (O.assign rfl rfl) rfl rfl rfl ?_
  refine AO.nil ?_
  refine AQ.thenN ?_
  refine AW.seq ?_
  refine AW.seq ?_
  refine AW.region ?_
  (refine AO.op (O.loadK rfl rfl (by repeat (first | exact List.Mem.head _ | refine List.Mem.tail _ ?_)) (by (dsimp only [List.set, List.append, List.cons_append, List.nil_append, AV.cells, splice, List.take, List.drop, Nat.reduceAdd]; done)) (by rfl)) rfl rfl rfl ?_)
  refine AO.op (O.call rfl Try.func15 rfl rfl rfl (evalid_fn e hb)) rfl rfl rfl ?_
  refine AO.op (O.not rfl rfl (by rfl)) rfl rfl rfl ?_
  refine AO.op (O.move rfl rfl) rfl rfl rfl ?_
  refine AO.opG rfl rfl rfl (fun hp => O.move rfl rfl) ?_
  refine AO.opG rfl rfl rfl (fun hp => OpW.force 15 rfl (by exact hp) (O.call rfl Try.func43 rfl rfl rfl (timeOK_fn _))) ?_
  refine AO.opG rfl rfl rfl (fun hp => OpW.force 16 rfl (by exact hp) (O.not rfl rfl (by rfl))) ?_
  refine AO.op (O.pickOr rfl rfl rfl rfl (fun h => by exact congrArg (fun b => !b) h)) rfl rfl rfl ?_
  refine AO.op (O.move rfl rfl) rfl rfl rfl ?_
  refine AO.opG rfl rfl rfl (fun hp => O.move rfl rfl) ?_
  refine AO.opG rfl rfl rfl (fun hp => OpW.force 20 rfl (by exact hp) (O.call rfl Try.func37 rfl rfl rfl (peerOK_fn _))) ?_
  refine AO.opG rfl rfl rfl (fun hp => OpW.force 21 rfl (by exact hp) (O.not rfl rfl (by rfl))) ?_
  refine AO.op (O.pickOr rfl rfl rfl rfl (fun h => by exact congrArg (fun b => !b) h)) rfl rfl rfl ?_
  refine AO.op (O.move rfl rfl) rfl rfl rfl ?_
  (refine AO.opG rfl rfl rfl (fun hp => O.loadK rfl rfl (by repeat (first | exact List.Mem.head _ | refine List.Mem.tail _ ?_)) (by (dsimp only [List.set, List.append, List.cons_append, List.nil_append, AV.cells, splice, List.take, List.drop, Nat.reduceAdd]; done)) (by rfl)) ?_)
  refine AO.opG rfl rfl rfl (fun hp => OpW.force 25 rfl (by exact hp) (O.call rfl Try.func44 rfl rfl rfl (valid_fn m))) ?_
  refine AO.opG rfl rfl rfl (fun hp => OpW.force 26 rfl (by exact hp) (O.not rfl rfl (by rfl))) ?_
  refine AO.op (O.pickOr rfl rfl rfl rfl (fun h => by exact congrArg (fun b => !b) h)) rfl rfl rfl ?_
  refine AO.op (O.move rfl rfl) rfl rfl rfl ?_
  refine AO.opG rfl rfl rfl (fun hp => O.fieldAddr rfl rfl) ?_
  refine AO.opG rfl rfl rfl (fun hp => OpW.force 30 rfl (by exact hp) (O.load rfl rfl (by repeat (first | exact List.Mem.head _ | refine List.Mem.tail _ ?_)) (by rfl))) ?_
  refine AO.opG rfl rfl rfl (fun hp => OpW.force 31 rfl (by exact hp) (O.neq rfl rfl rfl (by rfl))) ?_
  refine AO.opG rfl rfl rfl (fun hp => OpW.force 32 rfl (by exact hp) (O.move rfl rfl)) ?_
  refine AO.opG rfl rfl rfl (fun hp => O.fieldAddr rfl rfl) ?_
  refine AO.opG rfl rfl rfl (fun hp => OpW.force 34 rfl (by exact hp) (O.load rfl rfl (by repeat (first | exact List.Mem.head _ | refine List.Mem.tail _ ?_)) (by rfl))) ?_
  refine AO.opG rfl rfl rfl (fun hp => OpW.force 35 rfl (by exact hp) (O.neq rfl rfl rfl (by rfl))) ?_
  refine AO.opG rfl rfl rfl (fun hp => OpW.force 33 rfl (by exact hp) (O.pickAnd rfl rfl rfl rfl (fun h => by simp_all))) ?_
  refine AO.op (O.pickOr rfl rfl rfl rfl (fun h => by exact congrArg (fun b => !b) h)) rfl rfl rfl ?_
  refine AO.nil ?_
  refine AQ.thenN ?_
  refine AW.split rfl (fun h => ?_) (fun h => ?_) <;> (try simp only [decide_eq_true_eq, decide_eq_false_iff_not, beq_iff_eq, beq_eq_false_iff_ne, bne_iff_ne, bne_eq_false_iff_eq, Bool.not_eq_true', Bool.not_eq_false', Bool.not_eq_true, Bool.not_eq_false, ne_eq, Int.not_lt, Int.not_le, Bool.and_eq_true, Bool.or_eq_true, Bool.or_eq_false_iff, Bool.and_eq_false_imp, strOf_toList, Decidable.not_not] at h)
  · skip
    have e1 : sendR e p m now = (Ep.none, Msg.none, 1) := if_neg (by rintro ⟨h1, h2, h3, h4, h5⟩; rcases h with (((h | h) | h) | h) | h; exact h h1; exact h h2; exact h h3; exact h h4; omega)
    refine AW.seq ?_
    refine AW.region ?_
    refine AO.op (O.build rfl rfl rfl (by rfl)) rfl rfl rfl ?_
    refine AO.op (O.build rfl rfl rfl (by rfl)) rfl rfl rfl ?_
    (refine AO.store (i := 1) rfl rfl rfl rfl rfl rfl (by rfl) (by rfl) (by rfl) (by (dsimp only [List.set, List.append, List.cons_append, List.nil_append, AV.cells, splice, List.take, List.drop, Nat.reduceAdd]; done)) (by (dsimp only [List.set, List.append, List.cons_append, List.nil_append, AV.cells, splice, List.take, List.drop, Nat.reduceAdd]; done)) ?_)
    (refine AO.store (i := 0) rfl rfl rfl rfl rfl rfl (by rfl) (by rfl) (by rfl) (by (dsimp only [List.set, List.append, List.cons_append, List.nil_append, AV.cells, splice, List.take, List.drop, Nat.reduceAdd]; done)) (by (dsimp only [List.set, List.append, List.cons_append, List.nil_append, AV.cells, splice, List.take, List.drop, Nat.reduceAdd]; done)) ?_)
    refine AO.op (O.assign rfl rfl) rfl rfl rfl ?_
    refine AO.nil ?_
    refine AQ.thenN ?_
    refine AW.ret ?_
    refine AQ.thenR ?_
    refine FnQ.coe (AQ.ret3G rfl (by exact ResAt.cell rfl (by repeat (first | exact List.Mem.head _ | refine List.Mem.tail _ ?_)) (by (dsimp only [List.set, List.append, List.cons_append, List.nil_append, AV.cells, splice, List.take, List.drop, Nat.reduceAdd]; done)) (by rfl)) (by exact ResAt.cell rfl (by repeat (exact List.Mem.head _)) (by (dsimp only [List.set, List.append, List.cons_append, List.nil_append, AV.cells, splice, List.take, List.drop, Nat.reduceAdd]; done)) (by rfl)) (by exact ResAt.tmp rfl) ⟨_, List.nil_sublist _, .nil⟩ ⟨rfl, rfl⟩) (Coe.tup (by (repeat (first | exact CoeL.nil | refine CoeL.cons Coe.rfl ?_ | refine CoeL.cons Coe.nil ?_ | refine CoeL.cons (Coe.agg ?_) ?_)); done)) (ret3S e1 rfl)
  · skip
    have hok : SendOk e p m now := ⟨h.1.1.1.1, h.1.1.1.2, h.1.1.2, h.1.2, by omega⟩
    have hok2 := hok
    obtain ⟨hv, ht, hp, hvm, hty⟩ := hok2
    have hsm := ValE.sm hv
    have hmm := ValM.sm hvm
    have hcu := clean_used e now
    have hv2 := hv.2.2.1
    have hv1 := hv.2.1
    refine AW.skip ?_
    refine AQ.thenN ?_
    refine AW.seq ?_
    refine AW.region ?_
    (refine AO.op (O.loadK rfl rfl (by repeat (first | exact List.Mem.head _ | refine List.Mem.tail _ ?_)) (by (dsimp only [List.set, List.append, List.cons_append, List.nil_append, AV.cells, splice, List.take, List.drop, Nat.reduceAdd]; done)) (by rfl)) rfl rfl rfl ?_)
    refine AO.op (O.move rfl rfl) rfl rfl rfl ?_
    refine AO.opN (O.call rfl Try.func45 rfl rfl rfl (cleaned_fn e now hsm)) rfl rfl rfl ?_
    rintro _ _ ⟨V15, V25, V35, hV15, hV25, hV35, rfl, rfl⟩
    simp only [List.cons_append, List.nil_append]
    (refine AO.store (i := 6) rfl rfl rfl rfl rfl rfl (by (simp [AV.cells, AV.one, roB, roI, roO, show ∀ k z, (Value.int k z).oneCell' = true from fun _ _ => rfl, show ∀ k, (Value.bool k).oneCell' = true from fun _ => rfl, *]; done)) (by rfl) (by rfl) (by (dsimp only [List.set, List.append, List.cons_append, List.nil_append, AV.cells, splice, List.take, List.drop, Nat.reduceAdd]; done)) (by (dsimp only [List.set, List.append, List.cons_append, List.nil_append, AV.cells, splice, List.take, List.drop, Nat.reduceAdd]; done)) ?_)
    refine AO.nil ?_
    refine AQ.thenN ?_
    refine AW.seq ?_
    refine AW.seq ?_
    refine AW.region ?_
    refine AO.op (O.fieldAddr rfl rfl) rfl rfl rfl ?_
    refine AO.op (O.load rfl rfl (by repeat (first | exact List.Mem.head _ | refine List.Mem.tail _ ?_)) (by rfl)) rfl rfl rfl ?_
    refine AO.op (O.lenRow rfl rfl (by repeat (first | exact List.Mem.head _ | refine List.Mem.tail _ ?_))) rfl rfl rfl ?_
    refine AO.op (O.geq rfl rfl rfl (by rfl)) rfl rfl rfl ?_
    refine AO.op (O.move rfl rfl) rfl rfl rfl ?_
    refine AO.opG rfl rfl rfl (fun hp => O.fieldAddr rfl rfl) ?_
    refine AO.opG rfl rfl rfl (fun hp => OpW.force 49 rfl (by exact hp) (O.load rfl rfl (by repeat (first | exact List.Mem.head _ | refine List.Mem.tail _ ?_)) (by rfl))) ?_
    refine AO.opG rfl rfl rfl (fun hp => OpW.force 50 rfl (by exact hp) (O.eql rfl rfl rfl (by rfl))) ?_
    refine AO.opG rfl rfl rfl (fun hp => OpW.force 51 rfl (by exact hp) (O.move rfl rfl)) ?_
    refine AO.opG rfl rfl rfl (fun hp => O.fieldAddr rfl rfl) ?_
    refine AO.opG rfl rfl rfl (fun hp => OpW.force 53 rfl (by exact hp) (O.load rfl rfl (by repeat (first | exact List.Mem.head _ | refine List.Mem.tail _ ?_)) (by rfl))) ?_
    refine AO.opG rfl rfl rfl (fun hp => OpW.force 54 rfl (by exact hp) (O.lenRow rfl rfl (by repeat (first | exact List.Mem.head _ | refine List.Mem.tail _ ?_)))) ?_
    refine AO.opG rfl rfl rfl (fun hp => OpW.force 55 rfl (by exact hp) (O.geq rfl rfl rfl (by rfl))) ?_
    refine AO.opG rfl rfl rfl (fun hp => OpW.force 52 rfl (by exact hp) (O.pickAnd rfl rfl rfl rfl (fun h => by simp_all))) ?_
    refine AO.op (O.pickOr rfl rfl rfl rfl (fun h => by exact congrArg (fun b => !b) h)) rfl rfl rfl ?_
    refine AO.nil ?_
    refine AQ.thenN ?_
    refine AW.split rfl (fun h2 => ?_) (fun h2 => ?_) <;> (try simp only [decide_eq_true_eq, decide_eq_false_iff_not, beq_iff_eq, beq_eq_false_iff_ne, bne_iff_ne, bne_eq_false_iff_eq, Bool.not_eq_true', Bool.not_eq_false', Bool.not_eq_true, Bool.not_eq_false, ne_eq, Int.not_lt, Int.not_le, Bool.and_eq_true, Bool.or_eq_true, Bool.or_eq_false_iff, Bool.and_eq_false_imp, strOf_toList, Decidable.not_not] at h2)
    · skip
      have e1 : sendR e p m now = (Ep.none, Msg.none, 16) := by rw [sendR, if_pos hok, if_pos (by omega)]
      refine AW.seq ?_
      refine AW.region ?_
      refine AO.op (O.build rfl rfl rfl (by rfl)) rfl rfl rfl ?_
      refine AO.op (O.build rfl rfl rfl (by rfl)) rfl rfl rfl ?_
      (refine AO.store (i := 4) rfl rfl rfl rfl rfl rfl (by rfl) (by rfl) (by rfl) (by (dsimp only [List.set, List.append, List.cons_append, List.nil_append, AV.cells, splice, List.take, List.drop, Nat.reduceAdd]; done)) (by (dsimp only [List.set, List.append, List.cons_append, List.nil_append, AV.cells, splice, List.take, List.drop, Nat.reduceAdd]; done)) ?_)
      (refine AO.store (i := 3) rfl rfl rfl rfl rfl rfl (by rfl) (by rfl) (by rfl) (by (dsimp only [List.set, List.append, List.cons_append, List.nil_append, AV.cells, splice, List.take, List.drop, Nat.reduceAdd]; done)) (by (dsimp only [List.set, List.append, List.cons_append, List.nil_append, AV.cells, splice, List.take, List.drop, Nat.reduceAdd]; done)) ?_)
      refine AO.op (O.assign rfl rfl) rfl rfl rfl ?_
      refine AO.nil ?_
      refine AQ.thenN ?_
      refine AW.ret ?_
      refine AQ.thenR ?_
      refine FnQ.coe (AQ.ret3G rfl (by exact ResAt.cell rfl (by repeat (first | exact List.Mem.head _ | refine List.Mem.tail _ ?_)) (by (dsimp only [List.set, List.append, List.cons_append, List.nil_append, AV.cells, splice, List.take, List.drop, Nat.reduceAdd]; done)) (by rfl)) (by exact ResAt.cell rfl (by repeat (first | exact List.Mem.head _ | refine List.Mem.tail _ ?_)) (by (dsimp only [List.set, List.append, List.cons_append, List.nil_append, AV.cells, splice, List.take, List.drop, Nat.reduceAdd]; done)) (by rfl)) (by exact ResAt.tmp rfl) ⟨_, List.nil_sublist _, .nil⟩ ⟨rfl, rfl⟩) (Coe.tup (by (repeat (first | exact CoeL.nil | refine CoeL.cons Coe.rfl ?_ | refine CoeL.cons Coe.nil ?_ | refine CoeL.cons (Coe.agg ?_) ?_)); done)) (ret3S e1 rfl)
    · skip
      have hfu : ¬SendFull (cleanE e now) m := by omega
      have e1 : sendR e p m now = (sentE (cleanE e now) p m now (freeI (cleanE e now).out (cleanE e now).used p e.next), { m with id := freeI (cleanE e now).out (cleanE e now).used p e.next }, 0) := by rw [sendR, if_pos hok, if_neg hfu]
      have hfl : (cleanE e now).used.length + (cleanE e now).out.length ≤ 48 := by rw [cleanE_out]; omega
      obtain ⟨id, hid⟩ : ∃ id, id = freeI (cleanE e now).out (cleanE e now).used p e.next := ⟨_, rfl⟩
      have hidb : 0 ≤ id ∧ id ≤ 65535 := by rw [hid]; unfold freeI; omega
      rw [← hid] at e1
      have hfree : Sp Try.prog 46 [.agg [.val (.int .i64 e.next), roW (cleanE e now).out, roU (cleanE e now).used, .val V35], .val (.int .i64 p)] [] (Is (.val (.int .i64 id))) := by
        rw [hid]; exact free_fn e.next (cleanE e now).out (cleanE e now).used V35 hV35 p hv.1 hfl
      refine AW.skip ?_
      refine AQ.thenN ?_
      refine AW.seq ?_
      refine AW.region ?_
      (refine AO.op (O.loadK rfl rfl (by repeat (first | exact List.Mem.head _ | refine List.Mem.tail _ ?_)) (by (dsimp only [List.set, List.append, List.cons_append, List.nil_append, AV.cells, splice, List.take, List.drop, Nat.reduceAdd]; done)) (by rfl)) rfl rfl rfl ?_)
      refine AO.op (O.move rfl rfl) rfl rfl rfl ?_
      (refine AO.op (O.callX rfl Try.func46 rfl rfl rfl (hfree) (by (repeat (first | exact LendX.nil | refine LendX.same ?_ | refine LendX.row 1 rfl ?_ | refine LendX.row 2 rfl ?_ | refine LendX.agg ?_ ?_)); done)) rfl rfl rfl ?_)
      refine AO.op (O.fieldAddr rfl rfl) rfl rfl rfl ?_
      (refine AO.store (i := 5) rfl rfl rfl rfl rfl rfl (by rfl) (by rfl) (by rfl) (by (dsimp only [List.set, List.append, List.cons_append, List.nil_append, AV.cells, splice, List.take, List.drop, Nat.reduceAdd]; done)) (by (dsimp only [List.set, List.append, List.cons_append, List.nil_append, AV.cells, splice, List.take, List.drop, Nat.reduceAdd]; done)) ?_)
      refine AO.nil ?_
      refine AQ.thenN ?_
      refine AW.seq ?_
      refine AW.region ?_
      refine AO.op (O.fieldAddr rfl rfl) rfl rfl rfl ?_
      refine AO.op (O.load rfl rfl (by repeat (first | exact List.Mem.head _ | refine List.Mem.tail _ ?_)) (by rfl)) rfl rfl rfl ?_
      refine AO.op (O.add rfl rfl rfl (by exact wI64 (by omega))) rfl rfl rfl ?_
      refine AO.op (O.and_ rfl rfl rfl (andI64 16 (by decide) (by decide) (m := 65536) (by decide) (by omega))) rfl rfl rfl ?_
      refine AO.op (O.fieldAddr rfl rfl) rfl rfl rfl ?_
      (refine AO.store (i := 6) rfl rfl rfl rfl rfl rfl (by rfl) (by rfl) (by rfl) (by (dsimp only [List.set, List.append, List.cons_append, List.nil_append, AV.cells, splice, List.take, List.drop, Nat.reduceAdd]; done)) (by (dsimp only [List.set, List.append, List.cons_append, List.nil_append, AV.cells, splice, List.take, List.drop, Nat.reduceAdd]; done)) ?_)
      refine AO.nil ?_
      refine AQ.thenN ?_
      refine AW.seq ?_
      refine AW.region ?_
      refine AO.op (O.fieldAddr rfl rfl) rfl rfl rfl ?_
      refine AO.op (O.load rfl rfl (by repeat (first | exact List.Mem.head _ | refine List.Mem.tail _ ?_)) (by rfl)) rfl rfl rfl ?_
      refine AO.op (O.move rfl rfl) rfl rfl rfl ?_
      refine AO.op (O.fieldAddr rfl rfl) rfl rfl rfl ?_
      refine AO.op (O.load rfl rfl (by repeat (first | exact List.Mem.head _ | refine List.Mem.tail _ ?_)) (by rfl)) rfl rfl rfl ?_
      refine AO.op (O.move rfl rfl) rfl rfl rfl ?_
      refine AO.op (O.add rfl rfl rfl (by exact wI64 (by omega))) rfl rfl rfl ?_
      refine AO.op (O.build rfl rfl rfl (by rfl)) rfl rfl rfl ?_
      refine AO.opB (O.buildSlice rfl rfl rfl (by rfl) (by rfl) (by rfl) (by rfl)) rfl rfl rfl ?_
      intro B6
      refine AO.g ?_
      (refine G.freezeSl 0 78 rfl rfl ⟨Nat.le_refl _, by unfold maxLen; omega⟩ ?_)
      refine G.unfull 78 rfl ?_
      refine AO.u ?_
      dsimp only [List.eraseIdx]
      (refine AO.append' (i := 1) rfl rfl rfl rfl (by rfl) (by rfl) rfl rfl rfl (by exact SrcA.ro TyD.ax (by rfl) (Nat.le_of_ble_eq_true rfl)) (by rfl) (by (unfold maxLen; omega)) (by omega) (by (dsimp only [List.set, List.append, List.cons_append, List.nil_append, AV.cells, splice, List.take, List.drop, Nat.reduceAdd]; done)) (fun _ => by (dsimp only [List.set]; done)) ?_)
      intro V7 hV7
      refine AO.op (O.fieldAddr rfl rfl) rfl rfl rfl ?_
      (refine AO.store (i := 6) rfl rfl rfl rfl rfl rfl (by (simp [AV.cells, AV.one, *]; done)) (by rfl) (by rfl) (by (dsimp only [List.set, List.append, List.cons_append, List.nil_append, AV.cells, splice, List.take, List.drop, Nat.reduceAdd]; done)) (by (dsimp only [List.set, List.append, List.cons_append, List.nil_append, AV.cells, splice, List.take, List.drop, Nat.reduceAdd]; done)) ?_)
      refine AO.nil ?_
      refine AQ.thenN ?_
      refine AW.seq ?_
      refine AW.seq ?_
      refine AW.region ?_
      refine AO.op (O.fieldAddr rfl rfl) rfl rfl rfl ?_
      refine AO.op (O.load rfl rfl (by repeat (first | exact List.Mem.head _ | refine List.Mem.tail _ ?_)) (by rfl)) rfl rfl rfl ?_
      refine AO.op (O.eql rfl rfl rfl (by rfl)) rfl rfl rfl ?_
      refine AO.nil ?_
      refine AQ.thenN ?_
      refine AW.split rfl (fun h0 => ?_) (fun h0 => ?_) <;> (try simp only [decide_eq_true_eq, decide_eq_false_iff_not, beq_iff_eq, beq_eq_false_iff_ne, bne_iff_ne, bne_eq_false_iff_eq, Bool.not_eq_true', Bool.not_eq_false', Bool.not_eq_true, Bool.not_eq_false, ne_eq, Int.not_lt, Int.not_le, Bool.and_eq_true, Bool.or_eq_true, Bool.or_eq_false_iff, Bool.and_eq_false_imp, strOf_toList, Decidable.not_not] at h0)
      · skip
        refine AW.regionD 9 (by kernel_rfl) (by kernel_rfl) ?_
        simp only [List.take_succ_cons, List.take_zero, List.drop_succ_cons, List.drop_zero]
        refine FA.op (O.fieldAddr rfl rfl) rfl rfl rfl rfl ?_
        refine FA.op (O.load rfl rfl (by repeat (first | exact List.Mem.head _ | refine List.Mem.tail _ ?_)) (by rfl)) rfl rfl rfl rfl ?_
        refine FA.op (O.move rfl rfl) rfl rfl rfl rfl ?_
        (refine FA.op (O.loadK rfl rfl (by repeat (first | exact List.Mem.head _ | refine List.Mem.tail _ ?_)) (by (dsimp only [List.set, List.append, List.cons_append, List.nil_append, AV.cells, splice, List.take, List.drop, Nat.reduceAdd]; done)) (by rfl)) rfl rfl rfl rfl ?_)
        refine FA.op (O.call rfl Try.func47 rfl rfl rfl (message_fn { m with id := id } hmm)) rfl rfl rfl rfl ?_
        refine FA.op (O.move rfl rfl) rfl rfl rfl rfl ?_
        refine FA.op (O.add rfl rfl rfl (by exact wI64 (by omega))) rfl rfl rfl rfl ?_
        refine FA.op (O.build rfl rfl rfl (by rfl)) rfl rfl rfl rfl ?_
        refine FA.op (OpW.frz (O.buildSlice rfl rfl rfl (by rfl) (by rfl) (by rfl) (by rfl)) (by (unfold maxLen; omega))) rfl rfl rfl rfl ?_
        refine FA.nil ?_
        simp only [chosen, List.nil_append, List.cons_append, List.append_nil]
        (refine AO.append' (i := 2) rfl rfl rfl rfl (by rfl) (by rfl) rfl rfl rfl (by exact SrcA.ro TyD.ax (by rfl) (Nat.le_of_ble_eq_true rfl)) (by rfl) (by (unfold maxLen; omega)) (by omega) (by (dsimp only [List.set, List.append, List.cons_append, List.nil_append, AV.cells, splice, List.take, List.drop, Nat.reduceAdd]; done)) (fun _ => by (dsimp only [List.set]; done)) ?_)
        intro V8 hV8
        refine AO.op (O.fieldAddr rfl rfl) rfl rfl rfl ?_
        (refine AO.store (i := 6) rfl rfl rfl rfl rfl rfl (by (simp [AV.cells, AV.one, *]; done)) (by rfl) (by rfl) (by (dsimp only [List.set, List.append, List.cons_append, List.nil_append, AV.cells, splice, List.take, List.drop, Nat.reduceAdd]; done)) (by (dsimp only [List.set, List.append, List.cons_append, List.nil_append, AV.cells, splice, List.take, List.drop, Nat.reduceAdd]; done)) ?_)
        refine AO.nil ?_
        refine AQ.thenN ?_
        refine AW.seq ?_
        refine AW.regionD 3 (by kernel_rfl) (by kernel_rfl) ?_
        simp only [List.take_succ_cons, List.take_zero, List.drop_succ_cons, List.drop_zero]
        (refine FA.op (O.loadK rfl rfl (by repeat (first | exact List.Mem.head _ | refine List.Mem.tail _ ?_)) (by (dsimp only [List.set, List.append, List.cons_append, List.nil_append, AV.cells, splice, List.take, List.drop, Nat.reduceAdd]; done)) (by rfl)) rfl rfl rfl rfl ?_)
        (refine FA.op (O.loadK rfl rfl (by repeat (first | exact List.Mem.head _ | refine List.Mem.tail _ ?_)) (by (dsimp only [List.set, List.append, List.cons_append, List.nil_append, AV.cells, splice, List.take, List.drop, Nat.reduceAdd]; done)) (by rfl)) rfl rfl rfl rfl ?_)
        refine FA.op (O.call rfl Try.func47 rfl rfl rfl (message_fn { m with id := id } hmm)) rfl rfl rfl rfl ?_
        refine FA.nil ?_
        simp only [chosen, List.nil_append, List.cons_append, List.append_nil]
        (refine AO.store (i := 4) rfl rfl rfl rfl rfl rfl (by (simp [AV.cells, AV.one, roB, roI, roO, show ∀ k z, (Value.int k z).oneCell' = true from fun _ _ => rfl, show ∀ k, (Value.bool k).oneCell' = true from fun _ => rfl, *]; done)) (by rfl) (by rfl) (by (dsimp only [List.set, List.append, List.cons_append, List.nil_append, AV.cells, splice, List.take, List.drop, Nat.reduceAdd]; done)) (by (dsimp only [List.set, List.append, List.cons_append, List.nil_append, AV.cells, splice, List.take, List.drop, Nat.reduceAdd]; done)) ?_)
        (refine AO.store (i := 3) rfl rfl rfl rfl rfl rfl (by rfl) (by rfl) (by rfl) (by (dsimp only [List.set, List.append, List.cons_append, List.nil_append, AV.cells, splice, List.take, List.drop, Nat.reduceAdd]; done)) (by (dsimp only [List.set, List.append, List.cons_append, List.nil_append, AV.cells, splice, List.take, List.drop, Nat.reduceAdd]; done)) ?_)
        refine AO.op (O.assign rfl rfl) rfl rfl rfl ?_
        refine AO.nil ?_
        refine AQ.thenN ?_
        refine AW.ret ?_
        refine AQ.g ?_
        refine G.freezeCell 0 3 3 rfl rfl rfl ?_
        refine AQ.u ?_
        dsimp only [List.eraseIdx, List.set]
        refine AQ.g ?_
        refine G.freezeCell 0 2 2 rfl rfl rfl ?_
        refine AQ.u ?_
        dsimp only [List.eraseIdx, List.set]
        refine AQ.g ?_
        refine G.freezeCell 0 1 1 rfl rfl rfl ?_
        refine AQ.u ?_
        dsimp only [List.eraseIdx, List.set]
        rw [sentE_con h0] at e1
        refine FnQ.coe (AQ.ret3G rfl (by exact ResAt.cell rfl (by repeat (first | exact List.Mem.head _ | refine List.Mem.tail _ ?_)) (by (dsimp only [List.set, List.append, List.cons_append, List.nil_append, AV.cells, splice, List.take, List.drop, Nat.reduceAdd]; done)) (by rfl)) (by exact ResAt.cell rfl (by repeat (exact List.Mem.head _)) (by (dsimp only [List.set, List.append, List.cons_append, List.nil_append, AV.cells, splice, List.take, List.drop, Nat.reduceAdd]; done)) (by rfl)) (by exact ResAt.tmp rfl) ⟨_, List.nil_sublist _, .nil⟩ ⟨rfl, rfl⟩) (Coe.tup (by (repeat (first | exact CoeL.nil | refine CoeL.cons Coe.rfl ?_)); done)) (ret3S e1 (aggE_tup (aggE_of (e := ⟨_, _, _, _⟩) (snoc_len _ _) (wtsA_snoc _ _).symm (snoc_len _ _) (ussA_snoc _ _).symm rfl rfl) _))
      · skip
        refine AW.skip ?_
        refine AQ.thenN ?_
        refine AW.seq ?_
        refine AW.regionD 3 (by kernel_rfl) (by kernel_rfl) ?_
        simp only [List.take_succ_cons, List.take_zero, List.drop_succ_cons, List.drop_zero]
        (refine FA.op (O.loadK rfl rfl (by repeat (first | exact List.Mem.head _ | refine List.Mem.tail _ ?_)) (by (dsimp only [List.set, List.append, List.cons_append, List.nil_append, AV.cells, splice, List.take, List.drop, Nat.reduceAdd]; done)) (by rfl)) rfl rfl rfl rfl ?_)
        (refine FA.op (O.loadK rfl rfl (by repeat (first | exact List.Mem.head _ | refine List.Mem.tail _ ?_)) (by (dsimp only [List.set, List.append, List.cons_append, List.nil_append, AV.cells, splice, List.take, List.drop, Nat.reduceAdd]; done)) (by rfl)) rfl rfl rfl rfl ?_)
        refine FA.op (O.call rfl Try.func47 rfl rfl rfl (message_fn { m with id := id } hmm)) rfl rfl rfl rfl ?_
        refine FA.nil ?_
        simp only [chosen, List.nil_append, List.cons_append, List.append_nil]
        (refine AO.store (i := 4) rfl rfl rfl rfl rfl rfl (by (simp [AV.cells, AV.one, roB, roI, roO, show ∀ k z, (Value.int k z).oneCell' = true from fun _ _ => rfl, show ∀ k, (Value.bool k).oneCell' = true from fun _ => rfl, *]; done)) (by rfl) (by rfl) (by (dsimp only [List.set, List.append, List.cons_append, List.nil_append, AV.cells, splice, List.take, List.drop, Nat.reduceAdd]; done)) (by (dsimp only [List.set, List.append, List.cons_append, List.nil_append, AV.cells, splice, List.take, List.drop, Nat.reduceAdd]; done)) ?_)
        (refine AO.store (i := 3) rfl rfl rfl rfl rfl rfl (by rfl) (by rfl) (by rfl) (by (dsimp only [List.set, List.append, List.cons_append, List.nil_append, AV.cells, splice, List.take, List.drop, Nat.reduceAdd]; done)) (by (dsimp only [List.set, List.append, List.cons_append, List.nil_append, AV.cells, splice, List.take, List.drop, Nat.reduceAdd]; done)) ?_)
        refine AO.op (O.assign rfl rfl) rfl rfl rfl ?_
        refine AO.nil ?_
        refine AQ.thenN ?_
        refine AW.ret ?_
        refine AQ.g ?_
        refine G.freezeCell 0 3 3 rfl rfl rfl ?_
        refine AQ.u ?_
        dsimp only [List.eraseIdx, List.set]
        refine AQ.g ?_
        refine G.freezeCell 0 2 2 rfl rfl rfl ?_
        refine AQ.u ?_
        dsimp only [List.eraseIdx, List.set]
        refine AQ.g ?_
        refine G.freezeCell 0 1 1 rfl rfl rfl ?_
        refine AQ.u ?_
        dsimp only [List.eraseIdx, List.set]
        rw [sentE_non h0] at e1
        refine FnQ.coe (AQ.ret3G rfl (by exact ResAt.cell rfl (by repeat (first | exact List.Mem.head _ | refine List.Mem.tail _ ?_)) (by (dsimp only [List.set, List.append, List.cons_append, List.nil_append, AV.cells, splice, List.take, List.drop, Nat.reduceAdd]; done)) (by rfl)) (by exact ResAt.cell rfl (by repeat (exact List.Mem.head _)) (by (dsimp only [List.set, List.append, List.cons_append, List.nil_append, AV.cells, splice, List.take, List.drop, Nat.reduceAdd]; done)) (by rfl)) (by exact ResAt.tmp rfl) ⟨_, List.nil_sublist _, .nil⟩ ⟨rfl, rfl⟩) (Coe.tup (by (repeat (first | exact CoeL.nil | refine CoeL.cons Coe.rfl ?_)); done)) (ret3S e1 (aggE_tup (aggE_of (e := ⟨_, _, _, _⟩) rfl rfl (snoc_len _ _) (ussA_snoc _ _).symm rfl rfl) _))
end Go.Proofs.Ytdnmilmcdbgppaa.By

namespace Go.Proofs.Ytdnmilmcdbgppaa.By
open Go.RowKit L A
set_option linter.unusedVariables false
set_option maxRecDepth 20000
set_option linter.unusedSimpArgs false
attribute [local irreducible] AW AQ AO
set_option maxHeartbeats 4000000 in
theorem rsend_fn (e : Ep) (p : Int) (m : Msg) (now : Int) (hb : BdE e) : Sp Try.prog 19 [aggE e, .val (.int .i64 p), aggM m, .val (.int .i64 now)] [] (Is (resS (sendR e p m now))) := by
  refine Sp.enter Try.func19 rfl _ Try.ntmps19 rfl (fun w0 R0 => ?_)
  refine AW.seq ?_
  refine AW.region ?_
  refine AO.opB (O.box rfl rfl rfl rfl rfl) rfl rfl rfl ?_
  intro B1
  refine AO.opB (O.box rfl rfl rfl rfl rfl) rfl rfl rfl ?_
  intro B2
  refine AO.opB (O.alloc rfl (by (dsimp only [zerosA, List.replicate, List.append, List.flatten, AV.cells, Value.cells, List.toList_toArray, List.map]; done)) (by rfl)) rfl rfl rfl ?_
  intro B3
  refine AO.opB (O.alloc rfl (by (dsimp only [zerosA, List.replicate, List.append, List.flatten, AV.cells, Value.cells, List.toList_toArray, List.map]; done)) (by rfl)) rfl rfl rfl ?_
  intro B4
  refine AO.op (O.assign rfl rfl) rfl rfl rfl ?_
  refine AO.nil ?_
  refine AQ.thenN ?_
  refine AW.seq ?_
  refine AW.seq ?_
  refine AW.region ?_
  (refine AO.op (O.loadK rfl rfl (by repeat (first | exact List.Mem.head _ | refine List.Mem.tail _ ?_)) (by (dsimp only [List.set, List.append, List.cons_append, List.nil_append, AV.cells, splice, List.take, List.drop, Nat.reduceAdd]; done)) (by rfl)) rfl rfl rfl ?_)
  refine AO.op (O.move rfl rfl) rfl rfl rfl ?_
  refine AO.op (O.move rfl rfl) rfl rfl rfl ?_
  refine AO.op (O.call rfl Try.func48 rfl rfl rfl (args_fn e _ _ hb)) rfl rfl rfl ?_
  refine AO.op (O.not rfl rfl (by rfl)) rfl rfl rfl ?_
  refine AO.op (O.move rfl rfl) rfl rfl rfl ?_
  (refine AO.opG rfl rfl rfl (fun hp => O.loadK rfl rfl (by repeat (first | exact List.Mem.head _ | refine List.Mem.tail _ ?_)) (by (dsimp only [List.set, List.append, List.cons_append, List.nil_append, AV.cells, splice, List.take, List.drop, Nat.reduceAdd]; done)) (by rfl)) ?_)
  refine AO.opG rfl rfl rfl (fun hp => OpW.force 19 rfl (by exact hp) (O.call rfl Try.func41 rfl rfl rfl (rvalid_fn m))) ?_
  refine AO.opG rfl rfl rfl (fun hp => OpW.force 20 rfl (by exact hp) (O.not rfl rfl (by rfl))) ?_
  refine AO.op (O.pickOr rfl rfl rfl rfl (fun h => by exact congrArg (fun b => !b) h)) rfl rfl rfl ?_
  refine AO.op (O.move rfl rfl) rfl rfl rfl ?_
  refine AO.opG rfl rfl rfl (fun hp => O.fieldAddr rfl rfl) ?_
  refine AO.opG rfl rfl rfl (fun hp => OpW.force 24 rfl (by exact hp) (O.load rfl rfl (by repeat (first | exact List.Mem.head _ | refine List.Mem.tail _ ?_)) (by rfl))) ?_
  refine AO.opG rfl rfl rfl (fun hp => OpW.force 25 rfl (by exact hp) (O.gtr rfl rfl rfl (by rfl))) ?_
  refine AO.op (O.pickOr rfl rfl rfl rfl (fun h => by exact congrArg (fun b => !b) h)) rfl rfl rfl ?_
  refine AO.nil ?_
  refine AQ.thenN ?_
  refine AW.split rfl (fun h => ?_) (fun h => ?_) <;> (try simp only [decide_eq_true_eq, decide_eq_false_iff_not, beq_iff_eq, beq_eq_false_iff_ne, bne_iff_ne, bne_eq_false_iff_eq, Bool.not_eq_true', Bool.not_eq_false', Bool.not_eq_true, Bool.not_eq_false, ne_eq, Int.not_lt, Int.not_le, Bool.and_eq_true, Bool.or_eq_true, Bool.or_eq_false_iff, Bool.and_eq_false_imp, strOf_toList, Decidable.not_not] at h)
  · skip
    have e1 : sendR e p m now = (Ep.none, Msg.none, 1) := if_neg (by
      rintro ⟨h1, h2, h3, h4, h5⟩
      rcases h with (h | h) | h
      · exact h ⟨h1, h2, h3⟩
      · exact h h4
      · omega)
    refine AW.seq ?_
    refine AW.region ?_
    refine AO.op (O.build rfl rfl rfl (by rfl)) rfl rfl rfl ?_
    refine AO.op (O.build rfl rfl rfl (by rfl)) rfl rfl rfl ?_
    (refine AO.store (i := 1) rfl rfl rfl rfl rfl rfl (by rfl) (by rfl) (by rfl) (by (dsimp only [List.set, List.append, List.cons_append, List.nil_append, AV.cells, splice, List.take, List.drop, Nat.reduceAdd]; done)) (by (dsimp only [List.set, List.append, List.cons_append, List.nil_append, AV.cells, splice, List.take, List.drop, Nat.reduceAdd]; done)) ?_)
    (refine AO.store (i := 0) rfl rfl rfl rfl rfl rfl (by rfl) (by rfl) (by rfl) (by (dsimp only [List.set, List.append, List.cons_append, List.nil_append, AV.cells, splice, List.take, List.drop, Nat.reduceAdd]; done)) (by (dsimp only [List.set, List.append, List.cons_append, List.nil_append, AV.cells, splice, List.take, List.drop, Nat.reduceAdd]; done)) ?_)
    refine AO.op (O.assign rfl rfl) rfl rfl rfl ?_
    refine AO.nil ?_
    refine AQ.thenN ?_
    refine AW.ret ?_
    refine AQ.thenR ?_
    refine FnQ.coe (AQ.ret3G rfl (by exact ResAt.cell rfl (by repeat (first | exact List.Mem.head _ | refine List.Mem.tail _ ?_)) (by (dsimp only [List.set, List.append, List.cons_append, List.nil_append, AV.cells, splice, List.take, List.drop, Nat.reduceAdd]; done)) (by rfl)) (by exact ResAt.cell rfl (by repeat (exact List.Mem.head _)) (by (dsimp only [List.set, List.append, List.cons_append, List.nil_append, AV.cells, splice, List.take, List.drop, Nat.reduceAdd]; done)) (by rfl)) (by exact ResAt.tmp rfl) ⟨_, List.nil_sublist _, .nil⟩ ⟨rfl, rfl⟩) (Coe.tup (by (repeat (first | exact CoeL.nil | refine CoeL.cons Coe.rfl ?_ | refine CoeL.cons Coe.nil ?_ | refine CoeL.cons (Coe.agg ?_) ?_)); done)) (ret3S e1 rfl)
  · skip
    have hok : SendOk e p m now := ⟨h.1.1.1, h.1.1.2.1, h.1.1.2.2, h.1.2, by have := h.1.2.1.1.1; omega⟩
    have hok2 := hok
    obtain ⟨hv, ht, hp, hvm, hty⟩ := hok2
    have hsm := ValE.sm hv
    have hmm := ValM.sm hvm
    have hcu := clean_used e now
    have hv2 := hv.2.2.1
    have hv1 := hv.2.1
    have hnx := hv.1
    refine AW.skip ?_
    refine AQ.thenN ?_
    refine AW.seq ?_
    refine AW.region ?_
    (refine AO.op (O.loadK rfl rfl (by repeat (first | exact List.Mem.head _ | refine List.Mem.tail _ ?_)) (by (dsimp only [List.set, List.append, List.cons_append, List.nil_append, AV.cells, splice, List.take, List.drop, Nat.reduceAdd]; done)) (by rfl)) rfl rfl rfl ?_)
    refine AO.op (O.move rfl rfl) rfl rfl rfl ?_
    refine AO.opN (O.call rfl Try.func49 rfl rfl rfl (rclean_fn e now hsm)) rfl rfl rfl ?_
    rintro _ _ ⟨V15, V25, V35, hV15, hV25, hV35, rfl, rfl⟩
    simp only [List.cons_append, List.nil_append]
    refine AO.opB (O.alloc rfl (by (dsimp only [zerosA, List.replicate, List.append, List.flatten, AV.cells, Value.cells, List.toList_toArray, List.map]; done)) (by rfl)) rfl rfl rfl ?_
    intro B6
    (refine AO.store (i := 0) rfl rfl rfl rfl rfl rfl (by (simp [AV.cells, AV.one, roB, roI, roO, show ∀ k z, (Value.int k z).oneCell' = true from fun _ _ => rfl, show ∀ k, (Value.bool k).oneCell' = true from fun _ => rfl, *]; done)) (by rfl) (by rfl) (by (dsimp only [List.set, List.append, List.cons_append, List.nil_append, AV.cells, splice, List.take, List.drop, Nat.reduceAdd]; done)) (by (dsimp only [List.set, List.append, List.cons_append, List.nil_append, AV.cells, splice, List.take, List.drop, Nat.reduceAdd]; done)) ?_)
    refine AO.nil ?_
    refine AQ.thenN ?_
    refine AW.seq ?_
    refine AW.seq ?_
    refine AW.region ?_
    refine AO.op (O.fieldAddr rfl rfl) rfl rfl rfl ?_
    refine AO.op (O.load rfl rfl (by repeat (exact List.Mem.head _)) (by rfl)) rfl rfl rfl ?_
    refine AO.op (O.lenRow rfl rfl (by repeat (first | exact List.Mem.head _ | refine List.Mem.tail _ ?_))) rfl rfl rfl ?_
    refine AO.op (O.geq rfl rfl rfl (by rfl)) rfl rfl rfl ?_
    refine AO.op (O.move rfl rfl) rfl rfl rfl ?_
    refine AO.opG rfl rfl rfl (fun hp => O.fieldAddr rfl rfl) ?_
    refine AO.opG rfl rfl rfl (fun hp => OpW.force 38 rfl (by exact hp) (O.load rfl rfl (by repeat (first | exact List.Mem.head _ | refine List.Mem.tail _ ?_)) (by rfl))) ?_
    refine AO.opG rfl rfl rfl (fun hp => OpW.force 39 rfl (by exact hp) (O.eql rfl rfl rfl (by rfl))) ?_
    refine AO.opG rfl rfl rfl (fun hp => OpW.force 40 rfl (by exact hp) (O.move rfl rfl)) ?_
    refine AO.opG rfl rfl rfl (fun hp => O.fieldAddr rfl rfl) ?_
    refine AO.opG rfl rfl rfl (fun hp => OpW.force 42 rfl (by exact hp) (O.load rfl rfl (by repeat (exact List.Mem.head _)) (by rfl))) ?_
    refine AO.opG rfl rfl rfl (fun hp => OpW.force 43 rfl (by exact hp) (O.lenRow rfl rfl (by repeat (first | exact List.Mem.head _ | refine List.Mem.tail _ ?_)))) ?_
    refine AO.opG rfl rfl rfl (fun hp => OpW.force 44 rfl (by exact hp) (O.geq rfl rfl rfl (by rfl))) ?_
    refine AO.opG rfl rfl rfl (fun hp => OpW.force 41 rfl (by exact hp) (O.pickAnd rfl rfl rfl rfl (fun h => by simp_all))) ?_
    refine AO.op (O.pickOr rfl rfl rfl rfl (fun h => by exact congrArg (fun b => !b) h)) rfl rfl rfl ?_
    refine AO.nil ?_
    refine AQ.thenN ?_
    refine AW.split rfl (fun h2 => ?_) (fun h2 => ?_) <;> (try simp only [decide_eq_true_eq, decide_eq_false_iff_not, beq_iff_eq, beq_eq_false_iff_ne, bne_iff_ne, bne_eq_false_iff_eq, Bool.not_eq_true', Bool.not_eq_false', Bool.not_eq_true, Bool.not_eq_false, ne_eq, Int.not_lt, Int.not_le, Bool.and_eq_true, Bool.or_eq_true, Bool.or_eq_false_iff, Bool.and_eq_false_imp, strOf_toList, Decidable.not_not] at h2)
    · skip
      have e1 : sendR e p m now = (Ep.none, Msg.none, 16) := by rw [sendR, if_pos hok, if_pos (by omega)]
      refine AW.seq ?_
      refine AW.region ?_
      refine AO.op (O.build rfl rfl rfl (by rfl)) rfl rfl rfl ?_
      refine AO.op (O.build rfl rfl rfl (by rfl)) rfl rfl rfl ?_
      (refine AO.store (i := 5) rfl rfl rfl rfl rfl rfl (by rfl) (by rfl) (by rfl) (by (dsimp only [List.set, List.append, List.cons_append, List.nil_append, AV.cells, splice, List.take, List.drop, Nat.reduceAdd]; done)) (by (dsimp only [List.set, List.append, List.cons_append, List.nil_append, AV.cells, splice, List.take, List.drop, Nat.reduceAdd]; done)) ?_)
      (refine AO.store (i := 4) rfl rfl rfl rfl rfl rfl (by rfl) (by rfl) (by rfl) (by (dsimp only [List.set, List.append, List.cons_append, List.nil_append, AV.cells, splice, List.take, List.drop, Nat.reduceAdd]; done)) (by (dsimp only [List.set, List.append, List.cons_append, List.nil_append, AV.cells, splice, List.take, List.drop, Nat.reduceAdd]; done)) ?_)
      refine AO.op (O.assign rfl rfl) rfl rfl rfl ?_
      refine AO.nil ?_
      refine AQ.thenN ?_
      refine AW.ret ?_
      refine AQ.thenR ?_
      refine FnQ.coe (AQ.ret3G rfl (by exact ResAt.cell rfl (by repeat (first | exact List.Mem.head _ | refine List.Mem.tail _ ?_)) (by (dsimp only [List.set, List.append, List.cons_append, List.nil_append, AV.cells, splice, List.take, List.drop, Nat.reduceAdd]; done)) (by rfl)) (by exact ResAt.cell rfl (by repeat (first | exact List.Mem.head _ | refine List.Mem.tail _ ?_)) (by (dsimp only [List.set, List.append, List.cons_append, List.nil_append, AV.cells, splice, List.take, List.drop, Nat.reduceAdd]; done)) (by rfl)) (by exact ResAt.tmp rfl) ⟨_, List.nil_sublist _, .nil⟩ ⟨rfl, rfl⟩) (Coe.tup (by (repeat (first | exact CoeL.nil | refine CoeL.cons Coe.rfl ?_ | refine CoeL.cons Coe.nil ?_ | refine CoeL.cons (Coe.agg ?_) ?_)); done)) (ret3S e1 rfl)
    · skip
      have hfu : ¬SendFull (cleanE e now) m := by omega
      have e1 : sendR e p m now = (sentE (cleanE e now) p m now (freeI (cleanE e now).out (cleanE e now).used p e.next), { m with id := freeI (cleanE e now).out (cleanE e now).used p e.next }, 0) := by rw [sendR, if_pos hok, if_neg hfu]
      have hfl : (cleanE e now).used.length + (cleanE e now).out.length ≤ 48 := by rw [cleanE_out]; omega
      obtain ⟨hK1, hK2, hK3⟩ := freeK_spec (peer := p) (next := e.next) hfl
      obtain ⟨K, hK⟩ : ∃ K, K = freeK (cleanE e now).out (cleanE e now).used p e.next := ⟨_, rfl⟩
      have hfI : freeI (cleanE e now).out (cleanE e now).used p e.next = (e.next + (K : Int)) % 65536 := by rw [hK]; rfl
      rw [← hK] at hK1 hK2 hK3
      refine AW.skip ?_
      refine AQ.thenN ?_
      refine AW.seq ?_
      refine AW.region ?_
      refine AO.op (O.fieldAddr rfl rfl) rfl rfl rfl ?_
      refine AO.op (O.load rfl rfl (by repeat (exact List.Mem.head _)) (by rfl)) rfl rfl rfl ?_
      refine AO.op (O.assign rfl rfl) rfl rfl rfl ?_
      refine AO.nil ?_
      refine AQ.thenN ?_
      refine AW.seq ?_
      refine AW.block ?_
      refine AW.loopK [(1, _), (3, _), (6, _), (8, _), (9, _), (11, _)] (fun nn E H => ∃ (k : Nat) (id : Int), (k ≤ K) ∧ (id = (e.next + (k : Int)) % 65536) ∧ nn = K - k ∧ E = [(12, .val (.int .i64 id))] ∧ H = [.blk B6 26 4 [.val (.int .i64 e.next), .val V15, .val V25, .val V35], .row V35 63 10 (cleanE e now).inn.length (hdsA (cleanE e now).inn), .row V25 60 3 (cleanE e now).used.length (ussA (cleanE e now).used), .row V15 71 9 (cleanE e now).out.length (wtsA (cleanE e now).out), .blk B4 31 6 [.val (.int .i64 0), .val (.int .i64 0), .val (.int .i64 0), .val nilS, .val nilS, .val nilS], .blk B3 26 4 [.val (.int .i64 0), .val nilS, .val nilS, .val nilS], .blk B2 31 6 [.val (.int .i64 m.ty), .val (.int .i64 m.code), .val (.int .i64 m.id), roB m.tok, roO m.opts, roB m.pay]]) _ (⟨0, e.next, by omega, by omega, rfl, rfl, rfl⟩) (by repeat (first | exact envNil | refine envCons rfl ?_)) (by repeat (first | exact envNil | refine envCons rfl ?_)) (by repeat (first | exact subPnil | refine subPcons 0 rfl ?_)) ?_
      rintro nn E H ⟨k, id, hk, hid, rfl, rfl, rfl⟩
      dsimp only [List.cons_append, List.nil_append]
      have hidb : 0 ≤ id ∧ id ≤ 65535 := by omega
      refine AW.seq ?_
      refine AW.seq ?_
      refine AW.region ?_
      (refine AO.op (O.loadK rfl rfl (by repeat (exact List.Mem.head _)) (by (dsimp only [List.set, List.append, List.cons_append, List.nil_append, AV.cells, splice, List.take, List.drop, Nat.reduceAdd]; done)) (by rfl)) rfl rfl rfl ?_)
      refine AO.op (O.move rfl rfl) rfl rfl rfl ?_
      refine AO.op (O.move rfl rfl) rfl rfl rfl ?_
      (refine AO.op (O.callX rfl Try.func50 rfl rfl rfl (rfree_fn e.next (cleanE e now).out (cleanE e now).used V35 hV35 p id hfl) (by (repeat (first | exact LendX.nil | refine LendX.same ?_ | refine LendX.row 2 rfl ?_ | refine LendX.row 3 rfl ?_ | refine LendX.agg ?_ ?_)); done)) rfl rfl rfl ?_)
      refine AO.op (O.not rfl rfl (by rfl)) rfl rfl rfl ?_
      refine AO.nil ?_
      refine AQ.thenN ?_
      refine AW.split rfl (fun h3 => ?_) (fun h3 => ?_) <;> (try simp only [decide_eq_true_eq, decide_eq_false_iff_not, beq_iff_eq, beq_eq_false_iff_ne, bne_iff_ne, bne_eq_false_iff_eq, Bool.not_eq_true', Bool.not_eq_false', Bool.not_eq_true, Bool.not_eq_false, ne_eq, Int.not_lt, Int.not_le, Bool.and_eq_true, Bool.or_eq_true, Bool.or_eq_false_iff, Bool.and_eq_false_imp, strOf_toList, Decidable.not_not] at h3)
      · skip
        have hlt : k < K := by
          rcases Nat.lt_or_ge k K with h | h
          · exact h
          · obtain rfl : k = K := by omega
            rw [hid, hK2] at h3; simp at h3
        refine AW.skip ?_
        refine AQ.thenN ?_
        refine AW.block ?_
        refine AW.region ?_
        refine AO.op (O.move rfl rfl) rfl rfl rfl ?_
        refine AO.op (O.add rfl rfl rfl (by exact wI64 (by omega))) rfl rfl rfl ?_
        refine AO.op (O.rem rfl rfl rfl (by omega) (tmodE (by omega))) rfl rfl rfl ?_
        refine AO.op (O.assign rfl rfl) rfl rfl rfl ?_
        refine AO.nil ?_
        refine AQ.blockN ?_
        refine AQ.loopKN _ _ _ (by omega) (⟨k + 1, (id + 1) % 65536, by omega, (by omega), rfl, rfl, rfl⟩) (by repeat (first | exact envNil | refine envCons rfl ?_)) (by repeat (first | exact envNil | refine envCons rfl ?_)) (by repeat (first | exact subPnil | refine subPcons 0 rfl ?_))
      · skip
        have hkK : k = K := by
          rcases Nat.lt_or_ge k K with h | h
          · rw [hid, hK3 k h] at h3; simp at h3
          · omega
        rw [hfI, ← hkK, ← hid] at e1
        refine AW.exit ?_
        refine AQ.thenX ?_
        refine AQ.loopX ?_
        refine AQ.blockX rfl ?_
        refine AQ.thenN ?_
        refine AW.seq ?_
        refine AW.region ?_
        (refine AO.op (O.loadK rfl rfl (by repeat (first | exact List.Mem.head _ | refine List.Mem.tail _ ?_)) (by (dsimp only [List.set, List.append, List.cons_append, List.nil_append, AV.cells, splice, List.take, List.drop, Nat.reduceAdd]; done)) (by rfl)) rfl rfl rfl ?_)
        refine AO.op (O.call rfl Try.func51 rfl rfl rfl (copy_fn m hmm)) rfl rfl rfl ?_
        (refine AO.store (i := 6) rfl rfl rfl rfl rfl rfl (by rfl) (by rfl) (by rfl) (by (dsimp only [List.set, List.append, List.cons_append, List.nil_append, AV.cells, splice, List.take, List.drop, Nat.reduceAdd]; done)) (by (dsimp only [List.set, List.append, List.cons_append, List.nil_append, AV.cells, splice, List.take, List.drop, Nat.reduceAdd]; done)) ?_)
        refine AO.nil ?_
        refine AQ.thenN ?_
        refine AW.seq ?_
        refine AW.region ?_
        refine AO.op (O.move rfl rfl) rfl rfl rfl ?_
        refine AO.op (O.fieldAddr rfl rfl) rfl rfl rfl ?_
        (refine AO.store (i := 6) rfl rfl rfl rfl rfl rfl (by rfl) (by rfl) (by rfl) (by (dsimp only [List.set, List.append, List.cons_append, List.nil_append, AV.cells, splice, List.take, List.drop, Nat.reduceAdd]; done)) (by (dsimp only [List.set, List.append, List.cons_append, List.nil_append, AV.cells, splice, List.take, List.drop, Nat.reduceAdd]; done)) ?_)
        refine AO.nil ?_
        refine AQ.thenN ?_
        refine AW.seq ?_
        refine AW.region ?_
        refine AO.op (O.move rfl rfl) rfl rfl rfl ?_
        refine AO.op (O.add rfl rfl rfl (by exact wI64 (by omega))) rfl rfl rfl ?_
        refine AO.op (O.rem rfl rfl rfl (by omega) (tmodE (by omega))) rfl rfl rfl ?_
        refine AO.op (O.fieldAddr rfl rfl) rfl rfl rfl ?_
        (refine AO.store (i := 0) rfl rfl rfl rfl rfl rfl (by rfl) (by rfl) (by rfl) (by (dsimp only [List.set, List.append, List.cons_append, List.nil_append, AV.cells, splice, List.take, List.drop, Nat.reduceAdd]; done)) (by (dsimp only [List.set, List.append, List.cons_append, List.nil_append, AV.cells, splice, List.take, List.drop, Nat.reduceAdd]; done)) ?_)
        refine AO.nil ?_
        refine AQ.thenN ?_
        refine AW.seq ?_
        refine AW.region ?_
        refine AO.op (O.fieldAddr rfl rfl) rfl rfl rfl ?_
        refine AO.op (O.load rfl rfl (by repeat (exact List.Mem.head _)) (by rfl)) rfl rfl rfl ?_
        refine AO.opRow (O.appendNil rfl (by rfl) (by rfl) rfl rfl (by exact SrcA.row TyD.ax (by repeat (first | exact List.Mem.head _ | refine List.Mem.tail _ ?_)) (by (simp; done))) (by exact ussA_one _) (by (unfold maxLen; omega)) (by omega)) rfl rfl rfl ?_
        intro V7 hV7
        refine AO.op (O.move rfl rfl) rfl rfl rfl ?_
        refine AO.op (O.move rfl rfl) rfl rfl rfl ?_
        refine AO.op (O.move rfl rfl) rfl rfl rfl ?_
        refine AO.op (O.add rfl rfl rfl (by exact wI64 (by omega))) rfl rfl rfl ?_
        refine AO.op (O.build rfl rfl rfl (by rfl)) rfl rfl rfl ?_
        refine AO.opB (O.buildSlice rfl rfl rfl (by rfl) (by rfl) (by rfl) (by rfl)) rfl rfl rfl ?_
        intro B8
        refine AO.g ?_
        (refine G.freezeSl 0 76 rfl rfl ⟨Nat.le_refl _, by unfold maxLen; omega⟩ ?_)
        refine G.unfull 76 rfl ?_
        refine AO.u ?_
        dsimp only [List.eraseIdx]
        (refine AO.append' (i := 0) rfl rfl rfl rfl (by rfl) (by rfl) rfl rfl rfl (by exact SrcA.ro TyD.ax (by rfl) (Nat.le_of_ble_eq_true rfl)) (by rfl) (by (unfold maxLen; omega)) (by omega) (by (dsimp only [List.set, List.append, List.cons_append, List.nil_append, AV.cells, splice, List.take, List.drop, Nat.reduceAdd]; done)) (fun _ => by (dsimp only [List.set]; done)) ?_)
        intro V9 hV9
        refine AO.op (O.fieldAddr rfl rfl) rfl rfl rfl ?_
        (refine AO.store (i := 1) rfl rfl rfl rfl rfl rfl (by (simp [AV.cells, AV.one, *]; done)) (by rfl) (by rfl) (by (dsimp only [List.set, List.append, List.cons_append, List.nil_append, AV.cells, splice, List.take, List.drop, Nat.reduceAdd]; done)) (by (dsimp only [List.set, List.append, List.cons_append, List.nil_append, AV.cells, splice, List.take, List.drop, Nat.reduceAdd]; done)) ?_)
        refine AO.nil ?_
        refine AQ.thenN ?_
        refine AW.seq ?_
        refine AW.seq ?_
        refine AW.region ?_
        refine AO.op (O.fieldAddr rfl rfl) rfl rfl rfl ?_
        refine AO.op (O.load rfl rfl (by repeat (first | exact List.Mem.head _ | refine List.Mem.tail _ ?_)) (by rfl)) rfl rfl rfl ?_
        refine AO.op (O.eql rfl rfl rfl (by rfl)) rfl rfl rfl ?_
        refine AO.nil ?_
        refine AQ.thenN ?_
        refine AW.split rfl (fun h0 => ?_) (fun h0 => ?_) <;> (try simp only [decide_eq_true_eq, decide_eq_false_iff_not, beq_iff_eq, beq_eq_false_iff_ne, bne_iff_ne, bne_eq_false_iff_eq, Bool.not_eq_true', Bool.not_eq_false', Bool.not_eq_true, Bool.not_eq_false, ne_eq, Int.not_lt, Int.not_le, Bool.and_eq_true, Bool.or_eq_true, Bool.or_eq_false_iff, Bool.and_eq_false_imp, strOf_toList, Decidable.not_not] at h0)
        · skip
          refine AW.regionD 10 (by kernel_rfl) (by kernel_rfl) ?_
          simp only [List.take_succ_cons, List.take_zero, List.drop_succ_cons, List.drop_zero]
          refine FA.op (O.fieldAddr rfl rfl) rfl rfl rfl rfl ?_
          refine FA.op (O.load rfl rfl (by repeat (first | exact List.Mem.head _ | refine List.Mem.tail _ ?_)) (by rfl)) rfl rfl rfl rfl ?_
          refine FA.opN (O.appendNil rfl (by rfl) (by rfl) rfl rfl (by exact SrcA.row TyD.ax (by repeat (first | exact List.Mem.head _ | refine List.Mem.tail _ ?_)) (by (simp; done))) (by exact wtsA_one _) (by (unfold maxLen; omega)) (by omega)) rfl rfl rfl rfl ?_
          refine FA.op (O.move rfl rfl) rfl rfl rfl rfl ?_
          (refine FA.op (O.loadK rfl rfl (by repeat (first | exact List.Mem.head _ | refine List.Mem.tail _ ?_)) (by (dsimp only [List.set, List.append, List.cons_append, List.nil_append, AV.cells, splice, List.take, List.drop, Nat.reduceAdd]; done)) (by rfl)) rfl rfl rfl rfl ?_)
          refine FA.op (O.call rfl Try.func51 rfl rfl rfl (copy_fn { m with id := id } hmm)) rfl rfl rfl rfl ?_
          refine FA.op (O.move rfl rfl) rfl rfl rfl rfl ?_
          refine FA.op (O.add rfl rfl rfl (by exact wI64 (by omega))) rfl rfl rfl rfl ?_
          refine FA.op (O.build rfl rfl rfl (by rfl)) rfl rfl rfl rfl ?_
          refine FA.op (OpW.frz (O.buildSlice rfl rfl rfl (by rfl) (by rfl) (by rfl) (by rfl)) (by (unfold maxLen; omega))) rfl rfl rfl rfl ?_
          refine FA.nil ?_
          simp only [chosen, List.nil_append, List.cons_append, List.append_nil]
          rintro _ _ ⟨V10, rfl, hV10, rfl⟩
          simp only [List.cons_append, List.nil_append]
          (refine AO.append' (i := 0) rfl rfl rfl rfl (by rfl) (by rfl) rfl rfl rfl (by exact SrcA.ro TyD.ax (by rfl) (Nat.le_of_ble_eq_true rfl)) (by rfl) (by (unfold maxLen; omega)) (by omega) (by (dsimp only [List.set, List.append, List.cons_append, List.nil_append, AV.cells, splice, List.take, List.drop, Nat.reduceAdd]; done)) (fun _ => by (dsimp only [List.set]; done)) ?_)
          intro V11 hV11
          refine AO.op (O.fieldAddr rfl rfl) rfl rfl rfl ?_
          (refine AO.store (i := 2) rfl rfl rfl rfl rfl rfl (by (simp [AV.cells, AV.one, *]; done)) (by rfl) (by rfl) (by (dsimp only [List.set, List.append, List.cons_append, List.nil_append, AV.cells, splice, List.take, List.drop, Nat.reduceAdd]; done)) (by (dsimp only [List.set, List.append, List.cons_append, List.nil_append, AV.cells, splice, List.take, List.drop, Nat.reduceAdd]; done)) ?_)
          refine AO.nil ?_
          refine AQ.thenN ?_
          refine AW.seq ?_
          refine AW.regionM [(0, false), (1, false), (2, true), (3, true), (4, false)] (by kernel_rfl) (by kernel_rfl) (by exact (by exact splitBlk 8 7 rfl rfl (by exact splitBlk 9 6 rfl rfl splitNil))) ?_
          dsimp only [List.eraseIdx]
          (refine AM.op rfl (O.loadK rfl rfl (by repeat (first | exact List.Mem.head _ | refine List.Mem.tail _ ?_)) (by (dsimp only [List.set, List.append, List.cons_append, List.nil_append, AV.cells, splice, List.take, List.drop, Nat.reduceAdd]; done)) (by rfl)) rfl rfl rfl ?_)
          (refine AM.op rfl (O.loadK rfl rfl (by repeat (first | exact List.Mem.head _ | refine List.Mem.tail _ ?_)) (by (dsimp only [List.set, List.append, List.cons_append, List.nil_append, AV.cells, splice, List.take, List.drop, Nat.reduceAdd]; done)) (by rfl)) rfl rfl rfl ?_)
          refine AM.main _ rfl (fun w0 R0 => ?_)
          (refine AO.store (i := 0) rfl rfl rfl rfl rfl rfl (by (simp [AV.cells, AV.one, roB, roI, roO, show ∀ k z, (Value.int k z).oneCell' = true from fun _ _ => rfl, show ∀ k, (Value.bool k).oneCell' = true from fun _ => rfl, *]; done)) (by rfl) (by rfl) (by (dsimp only [List.set, List.append, List.cons_append, List.nil_append, AV.cells, splice, List.take, List.drop, Nat.reduceAdd]; done)) (by (dsimp only [List.set, List.append, List.cons_append, List.nil_append, AV.cells, splice, List.take, List.drop, Nat.reduceAdd]; done)) ?_)
          refine AM.okN ?_
          dsimp only [putE]
          refine AM.main _ rfl (fun w0 R0 => ?_)
          (refine AO.store (i := 1) rfl rfl rfl rfl rfl rfl (by rfl) (by rfl) (by rfl) (by (dsimp only [List.set, List.append, List.cons_append, List.nil_append, AV.cells, splice, List.take, List.drop, Nat.reduceAdd]; done)) (by (dsimp only [List.set, List.append, List.cons_append, List.nil_append, AV.cells, splice, List.take, List.drop, Nat.reduceAdd]; done)) ?_)
          refine AM.okN ?_
          dsimp only [putE]
          refine AM.op rfl (O.assign rfl rfl) rfl rfl rfl ?_
          refine AM.nil ?_
          dsimp only [List.cons_append, List.nil_append]
          refine AQ.thenN ?_
          refine AW.ret ?_
          refine AQ.g ?_
          refine G.freezeCell 2 0 1 rfl rfl rfl ?_
          refine AQ.u ?_
          dsimp only [List.eraseIdx, List.set]
          refine AQ.g ?_
          refine G.freezeCell 2 0 2 rfl rfl rfl ?_
          refine AQ.u ?_
          dsimp only [List.eraseIdx, List.set]
          refine AQ.g ?_
          refine G.freezeCell 3 0 3 rfl rfl rfl ?_
          refine AQ.u ?_
          dsimp only [List.eraseIdx, List.set]
          rw [sentE_con h0] at e1
          refine FnQ.coe (AQ.ret3G rfl (by exact ResAt.cell rfl (by repeat (exact List.Mem.head _)) (by (dsimp only [List.set, List.append, List.cons_append, List.nil_append, AV.cells, splice, List.take, List.drop, Nat.reduceAdd]; done)) (by rfl)) (by exact ResAt.cell rfl (by repeat (first | exact List.Mem.head _ | refine List.Mem.tail _ ?_)) (by (dsimp only [List.set, List.append, List.cons_append, List.nil_append, AV.cells, splice, List.take, List.drop, Nat.reduceAdd]; done)) (by rfl)) (by exact ResAt.tmp rfl) ⟨_, List.nil_sublist _, .nil⟩ ⟨rfl, rfl⟩) (Coe.tup (by (repeat (first | exact CoeL.nil | refine CoeL.cons Coe.rfl ?_)); done)) (ret3S e1 (aggE_tup (aggE_of (e := ⟨_, _, _, _⟩) (snoc_len _ _) (wtsA_snoc _ _).symm (snoc_len _ _) (ussA_snoc _ _).symm rfl rfl) _))
        · skip
          refine AW.skip ?_
          refine AQ.thenN ?_
          refine AW.seq ?_
          refine AW.regionM [(0, false), (1, false), (2, true), (3, true), (4, false)] (by kernel_rfl) (by kernel_rfl) (by exact (by exact splitBlk 8 6 rfl rfl (by exact splitBlk 9 5 rfl rfl splitNil))) ?_
          dsimp only [List.eraseIdx]
          (refine AM.op rfl (O.loadK rfl rfl (by repeat (first | exact List.Mem.head _ | refine List.Mem.tail _ ?_)) (by (dsimp only [List.set, List.append, List.cons_append, List.nil_append, AV.cells, splice, List.take, List.drop, Nat.reduceAdd]; done)) (by rfl)) rfl rfl rfl ?_)
          (refine AM.op rfl (O.loadK rfl rfl (by repeat (first | exact List.Mem.head _ | refine List.Mem.tail _ ?_)) (by (dsimp only [List.set, List.append, List.cons_append, List.nil_append, AV.cells, splice, List.take, List.drop, Nat.reduceAdd]; done)) (by rfl)) rfl rfl rfl ?_)
          refine AM.main _ rfl (fun w0 R0 => ?_)
          (refine AO.store (i := 0) rfl rfl rfl rfl rfl rfl (by (simp [AV.cells, AV.one, roB, roI, roO, show ∀ k z, (Value.int k z).oneCell' = true from fun _ _ => rfl, show ∀ k, (Value.bool k).oneCell' = true from fun _ => rfl, *]; done)) (by rfl) (by rfl) (by (dsimp only [List.set, List.append, List.cons_append, List.nil_append, AV.cells, splice, List.take, List.drop, Nat.reduceAdd]; done)) (by (dsimp only [List.set, List.append, List.cons_append, List.nil_append, AV.cells, splice, List.take, List.drop, Nat.reduceAdd]; done)) ?_)
          refine AM.okN ?_
          dsimp only [putE]
          refine AM.main _ rfl (fun w0 R0 => ?_)
          (refine AO.store (i := 1) rfl rfl rfl rfl rfl rfl (by rfl) (by rfl) (by rfl) (by (dsimp only [List.set, List.append, List.cons_append, List.nil_append, AV.cells, splice, List.take, List.drop, Nat.reduceAdd]; done)) (by (dsimp only [List.set, List.append, List.cons_append, List.nil_append, AV.cells, splice, List.take, List.drop, Nat.reduceAdd]; done)) ?_)
          refine AM.okN ?_
          dsimp only [putE]
          refine AM.op rfl (O.assign rfl rfl) rfl rfl rfl ?_
          refine AM.nil ?_
          dsimp only [List.cons_append, List.nil_append]
          refine AQ.thenN ?_
          refine AW.ret ?_
          refine AQ.g ?_
          refine G.freezeCell 2 0 2 rfl rfl rfl ?_
          refine AQ.u ?_
          dsimp only [List.eraseIdx, List.set]
          refine AQ.g ?_
          refine G.freezeCell 3 0 3 rfl rfl rfl ?_
          refine AQ.u ?_
          dsimp only [List.eraseIdx, List.set]
          refine AQ.g ?_
          refine G.freezeCell 4 0 1 rfl rfl rfl ?_
          refine AQ.u ?_
          dsimp only [List.eraseIdx, List.set]
          rw [sentE_non h0] at e1
          refine FnQ.coe (AQ.ret3G rfl (by exact ResAt.cell rfl (by repeat (exact List.Mem.head _)) (by (dsimp only [List.set, List.append, List.cons_append, List.nil_append, AV.cells, splice, List.take, List.drop, Nat.reduceAdd]; done)) (by rfl)) (by exact ResAt.cell rfl (by repeat (first | exact List.Mem.head _ | refine List.Mem.tail _ ?_)) (by (dsimp only [List.set, List.append, List.cons_append, List.nil_append, AV.cells, splice, List.take, List.drop, Nat.reduceAdd]; done)) (by rfl)) (by exact ResAt.tmp rfl) ⟨_, List.nil_sublist _, .nil⟩ ⟨rfl, rfl⟩) (Coe.tup (by (repeat (first | exact CoeL.nil | refine CoeL.cons Coe.rfl ?_)); done)) (ret3S e1 (aggE_tup (aggE_of (e := ⟨_, _, _, _⟩) rfl rfl (snoc_len _ _) (ussA_snoc _ _).symm rfl rfl) _))
end Go.Proofs.Ytdnmilmcdbgppaa.By

namespace Go.Proofs.Ytdnmilmcdbgppaa.By
open Go.RowKit L A
set_option linter.unusedVariables false
set_option maxRecDepth 20000
set_option linter.unusedSimpArgs false
attribute [local irreducible] AW AQ AO
def pw (s : Int) : Int := 2 * 2 ^ s.toNat
theorem pw_bd {s : Int} (h : 0 ≤ s) (h2 : s ≤ 4) : 2 ≤ pw s ∧ pw s ≤ 32 := by
  obtain ⟨n, rfl⟩ : ∃ n : Nat, s = (n : Int) := ⟨s.toNat, by omega⟩
  have h3 : n < 5 := by omega
  match n, h3 with
  | 0, _ | 1, _ | 2, _ | 3, _ | 4, _ => decide
theorem shl_pw {s : Int} (h : 0 ≤ s) (h2 : s ≤ 4) : IntKind.i64.wrap (2 * 2 ^ (min s.toNat IntKind.i64.bits)) = pw s := by
  obtain ⟨n, rfl⟩ : ∃ n : Nat, s = (n : Int) := ⟨s.toNat, by omega⟩
  have h3 : n < 5 := by omega
  match n, h3 with
  | 0, _ | 1, _ | 2, _ | 3, _ | 4, _ => decide
def bumpW (now : Int) (w : Wt) : Wt := ⟨w.peer, w.m, now + pw w.sent, w.sent + 1⟩
def stayF (now : Int) (w : Wt) : Option Wt := if now < w.due then some w else if w.sent ≤ 4 then some (bumpW now w) else none
def againF (now : Int) (w : Wt) : Option Wt := if now < w.due then none else if w.sent ≤ 4 then some (bumpW now w) else none
def overF (now : Int) (w : Wt) : Option Wt := if now < w.due then none else if w.sent ≤ 4 then none else some w
theorem fm_succ {α β : Type} (f : α → Option β) (d : α) {l : List α} {k : Nat} (h : k < l.length) : (l.take (k + 1)).filterMap f = (l.take k).filterMap f ++ (f (l.getD k d)).toList := by
  rw [take_snoc d h, List.filterMap_append]
  generalize l.getD k d = x
  cases hp : f x <;> simp [hp]
theorem fm_len {α β : Type} (f : α → Option β) (l : List α) (k : Nat) : ((l.take k).filterMap f).length ≤ k := Nat.le_trans (List.length_filterMap_le _ _) (by rw [List.length_take]; omega)
def tickR (e : Ep) (now : Int) : Ep × List Wt × List Wt × Int :=
  if ValE e ∧ TimeOk now then (⟨e.next, e.out.filterMap (stayF now), (cleanE e now).used, (cleanE e now).inn⟩, e.out.filterMap (againF now), e.out.filterMap (overF now), 0) else (Ep.none, [], [], 1)
abbrev resT (r : Ep × List Wt × List Wt × Int) : AV := .tup [aggE r.1, roW r.2.1, roW r.2.2.1, .val (.int .i64 r.2.2.2)]
theorem ret4T {q : AV} {r : Ep × List Wt × List Wt × Int} {a : Ep} {b c : List Wt} {d : Int} (h : r = (a, b, c, d)) (hq : q = .tup [aggE a, roW b, roW c, .val (.int .i64 d)]) : Is (resT r) q [] := by subst h; exact ⟨hq, rfl⟩
set_option maxHeartbeats 4000000 in
theorem tick_fn (e : Ep) (now : Int) (hb : BdE e) : Sp Try.prog 22 [aggE e, .val (.int .i64 now)] [] (Is (resT (tickR e now))) := by
  refine Sp.enter Try.func22 rfl _ Try.ntmps22 rfl (fun w0 R0 => ?_)
  refine AW.seq ?_
  refine AW.region ?_
  refine AO.opB (O.box rfl rfl rfl rfl rfl) rfl rfl rfl ?_
  intro B1
  refine AO.opB (O.alloc rfl (by (dsimp only [zerosA, List.replicate, List.append, List.flatten, AV.cells, Value.cells, List.toList_toArray, List.map]; done)) (by rfl)) rfl rfl rfl ?_
  intro B2
  refine AO.op (O.assign rfl rfl) rfl rfl rfl ?_
  refine AO.op (O.assign rfl rfl) rfl rfl rfl ?_
  refine AO.op (O.assign rfl rfl) rfl rfl rfl ?_
  refine AO.nil ?_
  refine AQ.thenN ?_
  refine AW.seq ?_
  refine AW.seq ?_
  refine AW.region ?_
  refine AO.op (O.loadK rfl rfl (by repeat (first | exact List.Mem.head _ | refine List.Mem.tail _ ?_)) (by rfl) (by rfl)) rfl rfl rfl ?_
  refine AO.op (O.call rfl Try.func15 rfl rfl rfl (evalid_fn e hb)) rfl rfl rfl ?_
  refine AO.op (O.not rfl rfl (by rfl)) rfl rfl rfl ?_
  refine AO.op (O.move rfl rfl) rfl rfl rfl ?_
  refine AO.opG rfl rfl rfl (fun hp => O.move rfl rfl) ?_
  refine AO.opG rfl rfl rfl (fun hp => OpW.force 17 rfl (by exact hp) (O.call rfl Try.func43 rfl rfl rfl (timeOK_fn _))) ?_
  refine AO.opG rfl rfl rfl (fun hp => OpW.force 18 rfl (by exact hp) (O.not rfl rfl (by rfl))) ?_
  refine AO.op (O.pickOr rfl rfl rfl rfl (fun h => by exact congrArg (fun b => !b) h)) rfl rfl rfl ?_
  refine AO.nil ?_
  refine AQ.thenN ?_
  refine AW.split rfl (fun h => ?_) (fun h => ?_) <;> (try simp only [decide_eq_true_eq, decide_eq_false_iff_not, beq_iff_eq, beq_eq_false_iff_ne, bne_iff_ne, bne_eq_false_iff_eq, Bool.not_eq_true', Bool.not_eq_false', Bool.not_eq_true, Bool.not_eq_false, ne_eq, Int.not_lt, Int.not_le, Bool.and_eq_true, Bool.or_eq_true, Bool.or_eq_false_iff, Bool.and_eq_false_imp, strOf_toList, Decidable.not_not] at h)
  · skip
    have e1 : tickR e now = (Ep.none, [], [], 1) := if_neg (by rintro ⟨h1, h2⟩; exact h.elim (fun g => g h1) (fun g => g h2))
    refine AW.seq ?_
    refine AW.region ?_
    refine AO.op (O.build rfl rfl rfl (by rfl)) rfl rfl rfl ?_
    (refine AO.store (i := 0) rfl rfl rfl rfl rfl rfl (by rfl) (by rfl) (by rfl) (by (dsimp only [List.set, List.append, List.cons_append, List.nil_append, AV.cells, splice, List.take, List.drop, Nat.reduceAdd]; done)) (by (dsimp only [List.set, List.append, List.cons_append, List.nil_append, AV.cells, splice, List.take, List.drop, Nat.reduceAdd]; done)) ?_)
    refine AO.op (O.assign rfl rfl) rfl rfl rfl ?_
    refine AO.op (O.assign rfl rfl) rfl rfl rfl ?_
    refine AO.op (O.assign rfl rfl) rfl rfl rfl ?_
    refine AO.nil ?_
    refine AQ.thenN ?_
    refine AW.ret ?_
    refine AQ.thenR ?_
    refine FnQ.coe (AQ.ret4G rfl (by exact ResAt.cell rfl (by repeat (exact List.Mem.head _)) (by (dsimp only [List.set, List.append, List.cons_append, List.nil_append, AV.cells, splice, List.take, List.drop, Nat.reduceAdd]; done)) (by rfl)) (by exact ResAt.tmp rfl) (by exact ResAt.tmp rfl) (by exact ResAt.tmp rfl) ⟨_, List.nil_sublist _, .nil⟩ ⟨rfl, rfl⟩) (Coe.tup (by (repeat (first | exact CoeL.nil | refine CoeL.cons Coe.rfl ?_ | refine CoeL.cons Coe.nil ?_ | refine CoeL.cons (Coe.agg ?_) ?_)); done)) (ret4T e1 rfl)
  · skip
    obtain ⟨hv, ht⟩ := h
    have hsm := ValE.sm hv
    have hv1 := hv.2.1
    have hv5 := hv.2.2.2.2.1
    have e1 : tickR e now = _ := if_pos ⟨hv, ht⟩
    refine AW.skip ?_
    refine AQ.thenN ?_
    refine AW.seq ?_
    refine AW.region ?_
    refine AO.op (O.loadK rfl rfl (by repeat (first | exact List.Mem.head _ | refine List.Mem.tail _ ?_)) (by rfl) (by rfl)) rfl rfl rfl ?_
    refine AO.op (O.move rfl rfl) rfl rfl rfl ?_
    refine AO.opN (O.call rfl Try.func45 rfl rfl rfl (cleaned_fn e now hsm)) rfl rfl rfl ?_
    rintro _ _ ⟨V13, V23, V33, hV13, hV23, hV33, rfl, rfl⟩
    simp only [List.cons_append, List.nil_append]
    (refine AO.store (i := 4) rfl rfl rfl rfl rfl rfl (by (simp [AV.cells, AV.one, roB, roI, roO, show ∀ k z, (Value.int k z).oneCell' = true from fun _ _ => rfl, show ∀ k, (Value.bool k).oneCell' = true from fun _ => rfl, *]; done)) (by rfl) (by rfl) (by (dsimp only [List.set, List.append, List.cons_append, List.nil_append, AV.cells, splice, List.take, List.drop, Nat.reduceAdd]; done)) (by (dsimp only [List.set, List.append, List.cons_append, List.nil_append, AV.cells, splice, List.take, List.drop, Nat.reduceAdd]; done)) ?_)
    refine AO.nil ?_
    refine AQ.thenN ?_
    refine AW.seq ?_
    refine AW.region ?_
    refine AO.op (O.assign rfl rfl) rfl rfl rfl ?_
    refine AO.g ?_
    refine G.freezeCell 2 3 1 rfl rfl rfl ?_
    dsimp only [List.eraseIdx, List.set]
    refine AO.u ?_
    refine AO.op (O.assign rfl rfl) rfl rfl rfl ?_
    refine AO.op (O.assign rfl rfl) rfl rfl rfl ?_
    refine AO.nil ?_
    refine AQ.thenN ?_
    refine AW.seq ?_
    refine AW.seq ?_
    refine AW.region ?_
    refine AO.op (O.fieldAddr rfl rfl) rfl rfl rfl ?_
    refine AO.op (O.load rfl rfl (by repeat (first | exact List.Mem.head _ | refine List.Mem.tail _ ?_)) (by rfl)) rfl rfl rfl ?_
    refine AO.op (O.lenR rfl rfl) rfl rfl rfl ?_
    refine AO.op (O.move rfl rfl) rfl rfl rfl ?_
    refine AO.nil ?_
    refine AQ.thenN ?_
    refine AW.block ?_
    refine AW.g ?_
    refine G.re 26 (roW e.out) rfl ?_
    refine AW.u ?_
    refine AW.g ?_
    refine G.re 27 (.val (.int .i64 (e.out.length : Int))) rfl ?_
    refine AW.u ?_
    refine AW.g ?_
    refine G.nilRow 71 9 ?_
    refine AW.u ?_
    refine AW.g ?_
    refine G.nilRow 71 9 ?_
    refine AW.u ?_
    refine AW.g ?_
    refine G.nilRow 71 9 ?_
    refine AW.u ?_
    refine AW.loopK [(1, _), (2, _), (4, _), (26, _), (27, _)] (fun nn E H => ∃ (k : Nat) (Va Vb Vc : Value), (k ≤ e.out.length) ∧ (Va.oneCell' = true) ∧ (Vb.oneCell' = true) ∧ (Vc.oneCell' = true) ∧ nn = e.out.length - k ∧ E = [(8, .val Va), (9, .val Vb), (10, .val Vc), (28, .val (.int .i64 (k : Int)))] ∧ H = [.row Va 71 9 ((e.out.take k).filterMap (stayF now)).length (wtsA ((e.out.take k).filterMap (stayF now))), .row Vb 71 9 ((e.out.take k).filterMap (againF now)).length (wtsA ((e.out.take k).filterMap (againF now))), .row Vc 71 9 ((e.out.take k).filterMap (overF now)).length (wtsA ((e.out.take k).filterMap (overF now))), .row V33 63 10 (cleanE e now).inn.length (hdsA (cleanE e now).inn), .row V23 60 3 (cleanE e now).used.length (ussA (cleanE e now).used), .blk B2 26 4 [.val (.int .i64 0), .val nilS, .val nilS, .val nilS], .blk B1 26 4 [.val (.int .i64 e.next), roW e.out, .val V23, .val V33]]) _ (⟨0, nilS, nilS, nilS, by omega, rfl, rfl, rfl, rfl, rfl, rfl⟩) (by repeat (first | exact envNil | refine envCons rfl ?_)) (by repeat (first | exact envNil | refine envCons rfl ?_)) (by repeat (first | exact subPnil | refine subPcons 0 rfl ?_)) ?_
    rintro nn E H ⟨k, Va, Vb, Vc, hk1, hVa, hVb, hVc, rfl, rfl, rfl⟩
    dsimp only [List.cons_append, List.nil_append]
    have hl1 := fm_len (stayF now) e.out k
    have hl2 := fm_len (againF now) e.out k
    have hl3 := fm_len (overF now) e.out k
    refine AW.seq ?_
    refine AW.region ?_
    refine AO.op (O.lss rfl rfl rfl (by rfl)) rfl rfl rfl ?_
    refine AO.nil ?_
    refine AQ.thenN ?_
    refine AW.seq ?_
    refine AW.split rfl (fun hlt => ?_) (fun hlt => ?_) <;> (try simp only [decide_eq_true_eq, decide_eq_false_iff_not, beq_iff_eq, beq_eq_false_iff_ne, bne_iff_ne, bne_eq_false_iff_eq, Bool.not_eq_true', Bool.not_eq_false', Bool.not_eq_true, Bool.not_eq_false, ne_eq, Int.not_lt, Int.not_le, Bool.and_eq_true, Bool.or_eq_true, Bool.or_eq_false_iff, Bool.and_eq_false_imp, strOf_toList, Decidable.not_not] at hlt)
    · skip
      have hk : k < e.out.length := by omega
      obtain ⟨w, hw⟩ : ∃ w, w = wt e.out k := ⟨_, rfl⟩
      have hok : OkW w := by rw [hw]; exact hv5 _ (getD_mem _ hk)
      have hmm : SmM w.m := hok.2.2.1.sm
      have hs1 := hok.2.2.2.2.1
      have hs2 : (e.out.take (k + 1)).filterMap (stayF now) = (e.out.take k).filterMap (stayF now) ++ (stayF now (wt e.out k)).toList := fm_succ (stayF now) Wt.none hk
      have hs3 : (e.out.take (k + 1)).filterMap (againF now) = (e.out.take k).filterMap (againF now) ++ (againF now (wt e.out k)).toList := fm_succ (againF now) Wt.none hk
      have hs4 : (e.out.take (k + 1)).filterMap (overF now) = (e.out.take k).filterMap (overF now) ++ (overF now (wt e.out k)).toList := fm_succ (overF now) Wt.none hk
      have hgw := getW hk (j := Int.toNat (k : Int)) (by omega)
      rw [← hw] at hs2 hs3 hs4 hgw
      refine AW.skip ?_
      refine AQ.thenN ?_
      refine AW.seq ?_
      refine AW.block ?_
      refine AW.seq ?_
      refine AW.region ?_
      refine AO.op (O.idxR rfl rfl rfl ⟨(by omega), (by omega)⟩) rfl rfl rfl ?_
      refine AO.op (O.loadRK rfl rfl (by exact hgw) (by rfl)) rfl rfl rfl ?_
      refine AO.opB (O.alloc rfl (by (dsimp only [zerosA, List.replicate, List.append, List.flatten, AV.cells, Value.cells, List.toList_toArray, List.map]; done)) (by rfl)) rfl rfl rfl ?_
      intro B4
      (refine AO.store (i := 0) rfl rfl rfl rfl rfl rfl (by rfl) (by rfl) (by rfl) (by (dsimp only [List.set, List.append, List.cons_append, List.nil_append, AV.cells, splice, List.take, List.drop, Nat.reduceAdd]; done)) (by (dsimp only [List.set, List.append, List.cons_append, List.nil_append, AV.cells, splice, List.take, List.drop, Nat.reduceAdd]; done)) ?_)
      refine AO.nil ?_
      refine AQ.thenN ?_
      refine AW.block ?_
      refine AW.seq ?_
      refine AW.region ?_
      refine AO.op (O.fieldAddr rfl rfl) rfl rfl rfl ?_
      refine AO.op (O.load rfl rfl (by repeat (exact List.Mem.head _)) (by rfl)) rfl rfl rfl ?_
      refine AO.op (O.move rfl rfl) rfl rfl rfl ?_
      refine AO.op (O.gtr rfl rfl rfl (by rfl)) rfl rfl rfl ?_
      refine AO.op (O.assign rfl rfl) rfl rfl rfl ?_
      refine AO.nil ?_
      refine AQ.thenN ?_
      refine AW.split rfl (fun h36 => ?_) (fun h36 => ?_) <;> (try simp only [decide_eq_true_eq, decide_eq_false_iff_not, beq_iff_eq, beq_eq_false_iff_ne, bne_iff_ne, bne_eq_false_iff_eq, Bool.not_eq_true', Bool.not_eq_false', Bool.not_eq_true, Bool.not_eq_false, ne_eq, Int.not_lt, Int.not_le, Bool.and_eq_true, Bool.or_eq_true, Bool.or_eq_false_iff, Bool.and_eq_false_imp, strOf_toList, Decidable.not_not] at h36)
      · skip
        rw [stayF, if_pos h36, Option.toList_some] at hs2
        rw [againF, if_pos h36, Option.toList_none, List.append_nil] at hs3
        rw [overF, if_pos h36, Option.toList_none, List.append_nil] at hs4
        refine AW.region ?_
        refine AO.op (O.move rfl rfl) rfl rfl rfl ?_
        refine AO.op (O.loadK rfl rfl (by repeat (exact List.Mem.head _)) (by rfl) (by rfl)) rfl rfl rfl ?_
        refine AO.opB (O.buildSlice rfl rfl rfl (by rfl) (by rfl) (by rfl) (by rfl)) rfl rfl rfl ?_
        intro B5
        refine AO.g ?_
        (refine G.freezeSl 0 43 rfl rfl ⟨Nat.le_refl _, by unfold maxLen; omega⟩ ?_)
        refine G.unfull 43 rfl ?_
        refine AO.u ?_
        dsimp only [List.eraseIdx]
        (refine AO.append' (i := 1) rfl rfl rfl rfl (by rfl) (by rfl) rfl rfl rfl (by exact SrcA.ro TyD.ax (by rfl) (Nat.le_of_ble_eq_true rfl)) (by rfl) (by (unfold maxLen; omega)) (by omega) (by (dsimp only [List.set, List.append, List.cons_append, List.nil_append, AV.cells, splice, List.take, List.drop, Nat.reduceAdd]; done)) (fun _ => by (dsimp only [List.set]; done)) ?_)
        intro V6 hV6
        refine AO.op (O.assign rfl rfl) rfl rfl rfl ?_
        refine AO.nil ?_
        refine AQ.blockN ?_
        refine AQ.blockN ?_
        refine AQ.thenN ?_
        refine AW.region ?_
        refine AO.op (O.add rfl rfl rfl (by exact wI64 (by omega))) rfl rfl rfl ?_
        refine AO.op (O.move rfl rfl) rfl rfl rfl ?_
        refine AO.nil ?_
        refine AQ.loopKN _ _ _ (by omega) (⟨k + 1, _, Vb, Vc, by omega, ‹_›, hVb, hVc, rfl, rfl, by rw [hs2, hs3, hs4, wtsA_snoc, List.length_append]⟩) (by repeat (first | exact envNil | refine envCons rfl ?_)) (by repeat (first | exact envNil | refine envCons rfl ?_)) (by repeat (first | exact subPnil | refine subPcons 1 rfl ?_))
      · skip
        refine AW.seq ?_
        refine AW.region ?_
        refine AO.op (O.fieldAddr rfl rfl) rfl rfl rfl ?_
        refine AO.op (O.load rfl rfl (by repeat (exact List.Mem.head _)) (by rfl)) rfl rfl rfl ?_
        refine AO.op (O.leq rfl rfl rfl (by rfl)) rfl rfl rfl ?_
        refine AO.op (O.assign rfl rfl) rfl rfl rfl ?_
        refine AO.nil ?_
        refine AQ.thenN ?_
        refine AW.split rfl (fun h45 => ?_) (fun h45 => ?_) <;> (try simp only [decide_eq_true_eq, decide_eq_false_iff_not, beq_iff_eq, beq_eq_false_iff_ne, bne_iff_ne, bne_eq_false_iff_eq, Bool.not_eq_true', Bool.not_eq_false', Bool.not_eq_true, Bool.not_eq_false, ne_eq, Int.not_lt, Int.not_le, Bool.and_eq_true, Bool.or_eq_true, Bool.or_eq_false_iff, Bool.and_eq_false_imp, strOf_toList, Decidable.not_not] at h45)
        · skip
          rw [stayF, if_neg (by omega), if_pos h45, Option.toList_some] at hs2
          rw [againF, if_neg (by omega), if_pos h45, Option.toList_some] at hs3
          rw [overF, if_neg (by omega), if_pos h45, Option.toList_none, List.append_nil] at hs4
          have hpw := pw_bd (s := w.sent) (by omega) h45
          refine AW.seq ?_
          refine AW.region ?_
          refine AO.op (O.move rfl rfl) rfl rfl rfl ?_
          refine AO.op (O.fieldAddr rfl rfl) rfl rfl rfl ?_
          refine AO.op (O.load rfl rfl (by repeat (exact List.Mem.head _)) (by rfl)) rfl rfl rfl ?_
          refine AO.op (O.shl rfl rfl rfl (by omega) (shl_pw (s := w.sent) (by omega) h45)) rfl rfl rfl ?_
          refine AO.op (O.add rfl rfl rfl (by exact wI64 (by omega))) rfl rfl rfl ?_
          refine AO.op (O.fieldAddr rfl rfl) rfl rfl rfl ?_
          (refine AO.store (i := 0) rfl rfl rfl rfl rfl rfl (by rfl) (by rfl) (by rfl) (by (dsimp only [List.set, List.append, List.cons_append, List.nil_append, AV.cells, splice, List.take, List.drop, Nat.reduceAdd]; done)) (by (dsimp only [List.set, List.append, List.cons_append, List.nil_append, AV.cells, splice, List.take, List.drop, Nat.reduceAdd]; done)) ?_)
          refine AO.nil ?_
          refine AQ.thenN ?_
          refine AW.seq ?_
          refine AW.region ?_
          refine AO.op (O.fieldAddr rfl rfl) rfl rfl rfl ?_
          refine AO.op (O.load rfl rfl (by repeat (exact List.Mem.head _)) (by rfl)) rfl rfl rfl ?_
          refine AO.op (O.add rfl rfl rfl (by exact wI64 (by omega))) rfl rfl rfl ?_
          refine AO.op (O.fieldAddr rfl rfl) rfl rfl rfl ?_
          (refine AO.store (i := 0) rfl rfl rfl rfl rfl rfl (by rfl) (by rfl) (by rfl) (by (dsimp only [List.set, List.append, List.cons_append, List.nil_append, AV.cells, splice, List.take, List.drop, Nat.reduceAdd]; done)) (by (dsimp only [List.set, List.append, List.cons_append, List.nil_append, AV.cells, splice, List.take, List.drop, Nat.reduceAdd]; done)) ?_)
          refine AO.nil ?_
          refine AQ.thenN ?_
          refine AW.seq ?_
          refine AW.region ?_
          refine AO.op (O.move rfl rfl) rfl rfl rfl ?_
          refine AO.op (O.loadK rfl rfl (by repeat (exact List.Mem.head _)) (by rfl) (by rfl)) rfl rfl rfl ?_
          refine AO.opB (O.buildSlice rfl rfl rfl (by rfl) (by rfl) (by rfl) (by rfl)) rfl rfl rfl ?_
          intro B7
          refine AO.g ?_
          (refine G.freezeSl 0 61 rfl rfl ⟨Nat.le_refl _, by unfold maxLen; omega⟩ ?_)
          refine G.unfull 61 rfl ?_
          refine AO.u ?_
          dsimp only [List.eraseIdx]
          (refine AO.append' (i := 1) rfl rfl rfl rfl (by rfl) (by rfl) rfl rfl rfl (by exact SrcA.ro TyD.ax (by rfl) (Nat.le_of_ble_eq_true rfl)) (by rfl) (by (unfold maxLen; omega)) (by omega) (by (dsimp only [List.set, List.append, List.cons_append, List.nil_append, AV.cells, splice, List.take, List.drop, Nat.reduceAdd]; done)) (fun _ => by (dsimp only [List.set]; done)) ?_)
          intro V8 hV8
          refine AO.op (O.assign rfl rfl) rfl rfl rfl ?_
          refine AO.nil ?_
          refine AQ.thenN ?_
          refine AW.seq ?_
          refine AW.region ?_
          refine AO.op (O.fieldAddr rfl rfl) rfl rfl rfl ?_
          refine AO.op (O.loadK rfl rfl (by repeat (exact List.Mem.head _)) (by rfl) (by rfl)) rfl rfl rfl ?_
          refine AO.op (O.call rfl Try.func47 rfl rfl rfl (message_fn w.m hmm)) rfl rfl rfl ?_
          refine AO.op (O.fieldAddr rfl rfl) rfl rfl rfl ?_
          (refine AO.store (i := 0) rfl rfl rfl rfl rfl rfl (by rfl) (by rfl) (by rfl) (by (dsimp only [List.set, List.append, List.cons_append, List.nil_append, AV.cells, splice, List.take, List.drop, Nat.reduceAdd]; done)) (by (dsimp only [List.set, List.append, List.cons_append, List.nil_append, AV.cells, splice, List.take, List.drop, Nat.reduceAdd]; done)) ?_)
          refine AO.nil ?_
          refine AQ.thenN ?_
          refine AW.region ?_
          refine AO.op (O.move rfl rfl) rfl rfl rfl ?_
          refine AO.op (O.loadK rfl rfl (by repeat (exact List.Mem.head _)) (by rfl) (by rfl)) rfl rfl rfl ?_
          refine AO.opB (O.buildSlice rfl rfl rfl (by rfl) (by rfl) (by rfl) (by rfl)) rfl rfl rfl ?_
          intro B9
          refine AO.g ?_
          (refine G.freezeSl 0 69 rfl rfl ⟨Nat.le_refl _, by unfold maxLen; omega⟩ ?_)
          refine G.unfull 69 rfl ?_
          refine AO.u ?_
          dsimp only [List.eraseIdx]
          (refine AO.append' (i := 2) rfl rfl rfl rfl (by rfl) (by rfl) rfl rfl rfl (by exact SrcA.ro TyD.ax (by rfl) (Nat.le_of_ble_eq_true rfl)) (by rfl) (by (unfold maxLen; omega)) (by omega) (by (dsimp only [List.set, List.append, List.cons_append, List.nil_append, AV.cells, splice, List.take, List.drop, Nat.reduceAdd]; done)) (fun _ => by (dsimp only [List.set]; done)) ?_)
          intro V10 hV10
          refine AO.op (O.assign rfl rfl) rfl rfl rfl ?_
          refine AO.nil ?_
          refine AQ.blockN ?_
          refine AQ.blockN ?_
          refine AQ.thenN ?_
          refine AW.region ?_
          refine AO.op (O.add rfl rfl rfl (by exact wI64 (by omega))) rfl rfl rfl ?_
          refine AO.op (O.move rfl rfl) rfl rfl rfl ?_
          refine AO.nil ?_
          refine AQ.loopKN _ _ _ (by omega) (⟨k + 1, V8, V10, Vc, by omega, hV8, hV10, hVc, rfl, rfl, by rw [hs2, hs3, hs4, wtsA_snoc, wtsA_snoc, List.length_append, List.length_append]⟩) (by repeat (first | exact envNil | refine envCons rfl ?_)) (by repeat (first | exact envNil | refine envCons rfl ?_)) (by repeat (first | exact subPnil | refine subPcons 1 rfl ?_))
        · skip
          rw [stayF, if_neg (by omega), if_neg (by omega), Option.toList_none, List.append_nil] at hs2
          rw [againF, if_neg (by omega), if_neg (by omega), Option.toList_none, List.append_nil] at hs3
          rw [overF, if_neg (by omega), if_neg (by omega), Option.toList_some] at hs4
          refine AW.region ?_
          refine AO.op (O.move rfl rfl) rfl rfl rfl ?_
          refine AO.op (O.loadK rfl rfl (by repeat (exact List.Mem.head _)) (by rfl) (by rfl)) rfl rfl rfl ?_
          refine AO.opB (O.buildSlice rfl rfl rfl (by rfl) (by rfl) (by rfl) (by rfl)) rfl rfl rfl ?_
          intro B11
          refine AO.g ?_
          (refine G.freezeSl 0 34 rfl rfl ⟨Nat.le_refl _, by unfold maxLen; omega⟩ ?_)
          refine G.unfull 34 rfl ?_
          refine AO.u ?_
          dsimp only [List.eraseIdx]
          (refine AO.append' (i := 3) rfl rfl rfl rfl (by rfl) (by rfl) rfl rfl rfl (by exact SrcA.ro TyD.ax (by rfl) (Nat.le_of_ble_eq_true rfl)) (by rfl) (by (unfold maxLen; omega)) (by omega) (by (dsimp only [List.set, List.append, List.cons_append, List.nil_append, AV.cells, splice, List.take, List.drop, Nat.reduceAdd]; done)) (fun _ => by (dsimp only [List.set]; done)) ?_)
          intro V12 hV12
          refine AO.op (O.assign rfl rfl) rfl rfl rfl ?_
          refine AO.nil ?_
          refine AQ.blockN ?_
          refine AQ.blockN ?_
          refine AQ.thenN ?_
          refine AW.region ?_
          refine AO.op (O.add rfl rfl rfl (by exact wI64 (by omega))) rfl rfl rfl ?_
          refine AO.op (O.move rfl rfl) rfl rfl rfl ?_
          refine AO.nil ?_
          refine AQ.loopKN _ _ _ (by omega) (⟨k + 1, Va, Vb, _, by omega, hVa, hVb, ‹_›, rfl, rfl, by rw [hs2, hs3, hs4, wtsA_snoc, List.length_append]⟩) (by repeat (first | exact envNil | refine envCons rfl ?_)) (by repeat (first | exact envNil | refine envCons rfl ?_)) (by repeat (first | exact subPnil | refine subPcons 1 rfl ?_))
    · skip
      obtain rfl : k = e.out.length := by omega
      rw [List.take_length]
      refine AW.exit ?_
      refine AQ.thenX ?_
      refine AQ.loopX ?_
      refine AQ.blockX rfl ?_
      refine AQ.thenN ?_
      refine AW.seq ?_
      refine AW.region ?_
      refine AO.op (O.move rfl rfl) rfl rfl rfl ?_
      refine AO.op (O.fieldAddr rfl rfl) rfl rfl rfl ?_
      (refine AO.store (i := 6) rfl rfl rfl rfl rfl rfl (by (simp [AV.cells, AV.one, *]; done)) (by rfl) (by rfl) (by (dsimp only [List.set, List.append, List.cons_append, List.nil_append, AV.cells, splice, List.take, List.drop, Nat.reduceAdd]; done)) (by (dsimp only [List.set, List.append, List.cons_append, List.nil_append, AV.cells, splice, List.take, List.drop, Nat.reduceAdd]; done)) ?_)
      refine AO.nil ?_
      refine AQ.thenN ?_
      refine AW.seq ?_
      refine AW.region ?_
      refine AO.op (O.loadK rfl rfl (by repeat (first | exact List.Mem.head _ | refine List.Mem.tail _ ?_)) (by rfl) (by rfl)) rfl rfl rfl ?_
      refine AO.op (O.move rfl rfl) rfl rfl rfl ?_
      refine AO.op (O.move rfl rfl) rfl rfl rfl ?_
      (refine AO.store (i := 5) rfl rfl rfl rfl rfl rfl (by (simp [AV.cells, AV.one, roB, roI, roO, show ∀ k z, (Value.int k z).oneCell' = true from fun _ _ => rfl, show ∀ k, (Value.bool k).oneCell' = true from fun _ => rfl, *]; done)) (by rfl) (by rfl) (by (dsimp only [List.set, List.append, List.cons_append, List.nil_append, AV.cells, splice, List.take, List.drop, Nat.reduceAdd]; done)) (by (dsimp only [List.set, List.append, List.cons_append, List.nil_append, AV.cells, splice, List.take, List.drop, Nat.reduceAdd]; done)) ?_)
      refine AO.op (O.assign rfl rfl) rfl rfl rfl ?_
      refine AO.op (O.assign rfl rfl) rfl rfl rfl ?_
      refine AO.op (O.assign rfl rfl) rfl rfl rfl ?_
      refine AO.nil ?_
      refine AQ.thenN ?_
      refine AW.ret ?_
      refine AQ.g ?_
      refine G.freezeCell 0 4 1 rfl rfl rfl ?_
      refine AQ.u ?_
      dsimp only [List.eraseIdx, List.set]
      refine AQ.g ?_
      refine G.freezeCell 2 3 3 rfl rfl rfl ?_
      refine AQ.u ?_
      dsimp only [List.eraseIdx, List.set]
      refine AQ.g ?_
      refine G.freezeCell 2 2 2 rfl rfl rfl ?_
      refine AQ.u ?_
      dsimp only [List.eraseIdx, List.set]
      refine AQ.g ?_
      refine G.freezeRow 0 rfl [5] (by repeat (first | exact frNil | refine frCons rfl ?_)) ?_
      refine AQ.u ?_
      dsimp only [List.map, List.eraseIdx, List.cons_append, List.nil_append]
      refine AQ.g ?_
      refine G.freezeRow 0 rfl [6] (by repeat (first | exact frNil | refine frCons rfl ?_)) ?_
      refine AQ.u ?_
      dsimp only [List.map, List.eraseIdx, List.cons_append, List.nil_append]
      refine FnQ.coe (AQ.ret4G rfl (by exact ResAt.cell rfl (by repeat (exact List.Mem.head _)) (by (dsimp only [List.set, List.append, List.cons_append, List.nil_append, AV.cells, splice, List.take, List.drop, Nat.reduceAdd]; done)) (by rfl)) (by exact ResAt.tmp rfl) (by exact ResAt.tmp rfl) (by exact ResAt.tmp rfl) ⟨_, List.nil_sublist _, .nil⟩ ⟨rfl, rfl⟩) (Coe.tup (by (repeat (first | exact CoeL.nil | refine CoeL.cons Coe.rfl ?_)); done)) (ret4T e1 rfl)
set_option maxHeartbeats 4000000 in
theorem rtick_fn (e : Ep) (now : Int) (hb : BdE e) : Sp Try.prog 23 [aggE e, .val (.int .i64 now)] [] (Is (resT (tickR e now))) := by
  refine Sp.enter Try.func23 rfl _ Try.ntmps23 rfl (fun w0 R0 => ?_)
  refine AW.seq ?_
  refine AW.region ?_
  refine AO.opB (O.box rfl rfl rfl rfl rfl) rfl rfl rfl ?_
  intro B1
  refine AO.opB (O.alloc rfl (by (dsimp only [zerosA, List.replicate, List.append, List.flatten, AV.cells, Value.cells, List.toList_toArray, List.map]; done)) (by rfl)) rfl rfl rfl ?_
  intro B2
  refine AO.op (O.assign rfl rfl) rfl rfl rfl ?_
  refine AO.op (O.assign rfl rfl) rfl rfl rfl ?_
  refine AO.op (O.assign rfl rfl) rfl rfl rfl ?_
  refine AO.nil ?_
  refine AQ.thenN ?_
  refine AW.seq ?_
  refine AW.seq ?_
  refine AW.region ?_
  refine AO.op (O.loadK rfl rfl (by repeat (first | exact List.Mem.head _ | refine List.Mem.tail _ ?_)) (by rfl) (by rfl)) rfl rfl rfl ?_
  refine AO.op (O.move rfl rfl) rfl rfl rfl ?_
  refine AO.op (O.call rfl Try.func48 rfl rfl rfl (args_fn e _ _ hb)) rfl rfl rfl ?_
  refine AO.op (O.not rfl rfl (by rfl)) rfl rfl rfl ?_
  refine AO.nil ?_
  refine AQ.thenN ?_
  refine AW.split rfl (fun h => ?_) (fun h => ?_) <;> (try simp only [decide_eq_true_eq, decide_eq_false_iff_not, beq_iff_eq, beq_eq_false_iff_ne, bne_iff_ne, bne_eq_false_iff_eq, Bool.not_eq_true', Bool.not_eq_false', Bool.not_eq_true, Bool.not_eq_false, ne_eq, Int.not_lt, Int.not_le, Bool.and_eq_true, Bool.or_eq_true, Bool.or_eq_false_iff, Bool.and_eq_false_imp, strOf_toList, Decidable.not_not] at h)
  · skip
    have e1 : tickR e now = (Ep.none, [], [], 1) := if_neg (by rintro ⟨h1, h2⟩; exact h ⟨h1, h2, by omega, by omega⟩)
    refine AW.seq ?_
    refine AW.region ?_
    refine AO.op (O.build rfl rfl rfl (by rfl)) rfl rfl rfl ?_
    (refine AO.store (i := 0) rfl rfl rfl rfl rfl rfl (by rfl) (by rfl) (by rfl) (by (dsimp only [List.set, List.append, List.cons_append, List.nil_append, AV.cells, splice, List.take, List.drop, Nat.reduceAdd]; done)) (by (dsimp only [List.set, List.append, List.cons_append, List.nil_append, AV.cells, splice, List.take, List.drop, Nat.reduceAdd]; done)) ?_)
    refine AO.op (O.assign rfl rfl) rfl rfl rfl ?_
    refine AO.op (O.assign rfl rfl) rfl rfl rfl ?_
    refine AO.op (O.assign rfl rfl) rfl rfl rfl ?_
    refine AO.nil ?_
    refine AQ.thenN ?_
    refine AW.ret ?_
    refine AQ.thenR ?_
    refine FnQ.coe (AQ.ret4G rfl (by exact ResAt.cell rfl (by repeat (exact List.Mem.head _)) (by (dsimp only [List.set, List.append, List.cons_append, List.nil_append, AV.cells, splice, List.take, List.drop, Nat.reduceAdd]; done)) (by rfl)) (by exact ResAt.tmp rfl) (by exact ResAt.tmp rfl) (by exact ResAt.tmp rfl) ⟨_, List.nil_sublist _, .nil⟩ ⟨rfl, rfl⟩) (Coe.tup (by (repeat (first | exact CoeL.nil | refine CoeL.cons Coe.rfl ?_ | refine CoeL.cons Coe.nil ?_ | refine CoeL.cons (Coe.agg ?_) ?_)); done)) (ret4T e1 rfl)
  · skip
    obtain ⟨hv, ht, -⟩ := h
    have hsm := ValE.sm hv
    have hv1 := hv.2.1
    have hv5 := hv.2.2.2.2.1
    have e1 : tickR e now = _ := if_pos ⟨hv, ht⟩
    refine AW.skip ?_
    refine AQ.thenN ?_
    refine AW.seq ?_
    refine AW.region ?_
    refine AO.op (O.loadK rfl rfl (by repeat (first | exact List.Mem.head _ | refine List.Mem.tail _ ?_)) (by rfl) (by rfl)) rfl rfl rfl ?_
    refine AO.op (O.move rfl rfl) rfl rfl rfl ?_
    refine AO.opN (O.call rfl Try.func49 rfl rfl rfl (rclean_fn e now hsm)) rfl rfl rfl ?_
    rintro _ _ ⟨V13, V23, V33, hV13, hV23, hV33, rfl, rfl⟩
    simp only [List.cons_append, List.nil_append]
    refine AO.opB (O.alloc rfl (by (dsimp only [zerosA, List.replicate, List.append, List.flatten, AV.cells, Value.cells, List.toList_toArray, List.map]; done)) (by rfl)) rfl rfl rfl ?_
    intro B4
    (refine AO.store (i := 0) rfl rfl rfl rfl rfl rfl (by (simp [AV.cells, AV.one, roB, roI, roO, show ∀ k z, (Value.int k z).oneCell' = true from fun _ _ => rfl, show ∀ k, (Value.bool k).oneCell' = true from fun _ => rfl, *]; done)) (by rfl) (by rfl) (by (dsimp only [List.set, List.append, List.cons_append, List.nil_append, AV.cells, splice, List.take, List.drop, Nat.reduceAdd]; done)) (by (dsimp only [List.set, List.append, List.cons_append, List.nil_append, AV.cells, splice, List.take, List.drop, Nat.reduceAdd]; done)) ?_)
    refine AO.nil ?_
    refine AQ.thenN ?_
    refine AW.seq ?_
    refine AW.region ?_
    refine AO.op (O.assign rfl rfl) rfl rfl rfl ?_
    refine AO.g ?_
    refine G.freezeCell 3 0 1 rfl rfl rfl ?_
    dsimp only [List.eraseIdx, List.set]
    refine AO.u ?_
    refine AO.op (O.assign rfl rfl) rfl rfl rfl ?_
    refine AO.op (O.assign rfl rfl) rfl rfl rfl ?_
    refine AO.nil ?_
    refine AQ.thenN ?_
    refine AW.seq ?_
    refine AW.seq ?_
    refine AW.region ?_
    refine AO.op (O.fieldAddr rfl rfl) rfl rfl rfl ?_
    refine AO.op (O.load rfl rfl (by repeat (exact List.Mem.head _)) (by rfl)) rfl rfl rfl ?_
    refine AO.op (O.lenR rfl rfl) rfl rfl rfl ?_
    refine AO.op (O.move rfl rfl) rfl rfl rfl ?_
    refine AO.nil ?_
    refine AQ.thenN ?_
    refine AW.block ?_
    refine AW.g ?_
    refine G.re 23 (roW e.out) rfl ?_
    refine AW.u ?_
    refine AW.g ?_
    refine G.re 24 (.val (.int .i64 (e.out.length : Int))) rfl ?_
    refine AW.u ?_
    refine AW.g ?_
    refine G.nilRow 71 9 ?_
    refine AW.u ?_
    refine AW.g ?_
    refine G.nilRow 71 9 ?_
    refine AW.u ?_
    refine AW.g ?_
    refine G.nilRow 71 9 ?_
    refine AW.u ?_
    refine AW.loopK [(1, _), (4, _), (8, _), (23, _), (24, _)] (fun nn E H => ∃ (k : Nat) (Va Vb Vc : Value), (k ≤ e.out.length) ∧ (Va.oneCell' = true) ∧ (Vb.oneCell' = true) ∧ (Vc.oneCell' = true) ∧ nn = e.out.length - k ∧ E = [(9, .val Va), (10, .val Vb), (11, .val Vc), (25, .val (.int .i64 (k : Int)))] ∧ H = [.row Va 71 9 ((e.out.take k).filterMap (stayF now)).length (wtsA ((e.out.take k).filterMap (stayF now))), .row Vb 71 9 ((e.out.take k).filterMap (againF now)).length (wtsA ((e.out.take k).filterMap (againF now))), .row Vc 71 9 ((e.out.take k).filterMap (overF now)).length (wtsA ((e.out.take k).filterMap (overF now))), .blk B4 26 4 [.val (.int .i64 e.next), roW e.out, .val V23, .val V33], .row V33 63 10 (cleanE e now).inn.length (hdsA (cleanE e now).inn), .row V23 60 3 (cleanE e now).used.length (ussA (cleanE e now).used), .blk B2 26 4 [.val (.int .i64 0), .val nilS, .val nilS, .val nilS]]) _ (⟨0, nilS, nilS, nilS, by omega, rfl, rfl, rfl, rfl, rfl, rfl⟩) (by repeat (first | exact envNil | refine envCons rfl ?_)) (by repeat (first | exact envNil | refine envCons rfl ?_)) (by repeat (first | exact subPnil | refine subPcons 0 rfl ?_)) ?_
    rintro nn E H ⟨k, Va, Vb, Vc, hk1, hVa, hVb, hVc, rfl, rfl, rfl⟩
    dsimp only [List.cons_append, List.nil_append]
    have hl1 := fm_len (stayF now) e.out k
    have hl2 := fm_len (againF now) e.out k
    have hl3 := fm_len (overF now) e.out k
    refine AW.seq ?_
    refine AW.region ?_
    refine AO.op (O.lss rfl rfl rfl (by rfl)) rfl rfl rfl ?_
    refine AO.nil ?_
    refine AQ.thenN ?_
    refine AW.seq ?_
    refine AW.split rfl (fun hlt => ?_) (fun hlt => ?_) <;> (try simp only [decide_eq_true_eq, decide_eq_false_iff_not, beq_iff_eq, beq_eq_false_iff_ne, bne_iff_ne, bne_eq_false_iff_eq, Bool.not_eq_true', Bool.not_eq_false', Bool.not_eq_true, Bool.not_eq_false, ne_eq, Int.not_lt, Int.not_le, Bool.and_eq_true, Bool.or_eq_true, Bool.or_eq_false_iff, Bool.and_eq_false_imp, strOf_toList, Decidable.not_not] at hlt)
    · skip
      have hk : k < e.out.length := by omega
      obtain ⟨w, hw⟩ : ∃ w, w = wt e.out k := ⟨_, rfl⟩
      have hok : OkW w := by rw [hw]; exact hv5 _ (getD_mem _ hk)
      have hmm : SmM w.m := hok.2.2.1.sm
      have hs1 := hok.2.2.2.2.1
      have hs2 : (e.out.take (k + 1)).filterMap (stayF now) = (e.out.take k).filterMap (stayF now) ++ (stayF now (wt e.out k)).toList := fm_succ (stayF now) Wt.none hk
      have hs3 : (e.out.take (k + 1)).filterMap (againF now) = (e.out.take k).filterMap (againF now) ++ (againF now (wt e.out k)).toList := fm_succ (againF now) Wt.none hk
      have hs4 : (e.out.take (k + 1)).filterMap (overF now) = (e.out.take k).filterMap (overF now) ++ (overF now (wt e.out k)).toList := fm_succ (overF now) Wt.none hk
      have hgw := getW hk (j := Int.toNat (k : Int)) (by omega)
      rw [← hw] at hs2 hs3 hs4 hgw
      refine AW.skip ?_
      refine AQ.thenN ?_
      refine AW.seq ?_
      refine AW.block ?_
      refine AW.seq ?_
      refine AW.region ?_
      refine AO.op (O.idxR rfl rfl rfl ⟨(by omega), (by omega)⟩) rfl rfl rfl ?_
      refine AO.op (O.loadRK rfl rfl (by exact hgw) (by rfl)) rfl rfl rfl ?_
      refine AO.opB (O.alloc rfl (by (dsimp only [zerosA, List.replicate, List.append, List.flatten, AV.cells, Value.cells, List.toList_toArray, List.map]; done)) (by rfl)) rfl rfl rfl ?_
      intro B5
      (refine AO.store (i := 0) rfl rfl rfl rfl rfl rfl (by rfl) (by rfl) (by rfl) (by (dsimp only [List.set, List.append, List.cons_append, List.nil_append, AV.cells, splice, List.take, List.drop, Nat.reduceAdd]; done)) (by (dsimp only [List.set, List.append, List.cons_append, List.nil_append, AV.cells, splice, List.take, List.drop, Nat.reduceAdd]; done)) ?_)
      refine AO.nil ?_
      refine AQ.thenN ?_
      refine AW.block ?_
      refine AW.seq ?_
      refine AW.region ?_
      refine AO.op (O.fieldAddr rfl rfl) rfl rfl rfl ?_
      refine AO.op (O.load rfl rfl (by repeat (exact List.Mem.head _)) (by rfl)) rfl rfl rfl ?_
      refine AO.op (O.move rfl rfl) rfl rfl rfl ?_
      refine AO.op (O.gtr rfl rfl rfl (by rfl)) rfl rfl rfl ?_
      refine AO.op (O.assign rfl rfl) rfl rfl rfl ?_
      refine AO.nil ?_
      refine AQ.thenN ?_
      refine AW.split rfl (fun h36 => ?_) (fun h36 => ?_) <;> (try simp only [decide_eq_true_eq, decide_eq_false_iff_not, beq_iff_eq, beq_eq_false_iff_ne, bne_iff_ne, bne_eq_false_iff_eq, Bool.not_eq_true', Bool.not_eq_false', Bool.not_eq_true, Bool.not_eq_false, ne_eq, Int.not_lt, Int.not_le, Bool.and_eq_true, Bool.or_eq_true, Bool.or_eq_false_iff, Bool.and_eq_false_imp, strOf_toList, Decidable.not_not] at h36)
      · skip
        rw [stayF, if_pos h36, Option.toList_some] at hs2
        rw [againF, if_pos h36, Option.toList_none, List.append_nil] at hs3
        rw [overF, if_pos h36, Option.toList_none, List.append_nil] at hs4
        refine AW.region ?_
        refine AO.op (O.move rfl rfl) rfl rfl rfl ?_
        refine AO.op (O.loadK rfl rfl (by repeat (exact List.Mem.head _)) (by rfl) (by rfl)) rfl rfl rfl ?_
        refine AO.opB (O.buildSlice rfl rfl rfl (by rfl) (by rfl) (by rfl) (by rfl)) rfl rfl rfl ?_
        intro B6
        refine AO.g ?_
        (refine G.freezeSl 0 64 rfl rfl ⟨Nat.le_refl _, by unfold maxLen; omega⟩ ?_)
        refine G.unfull 64 rfl ?_
        refine AO.u ?_
        dsimp only [List.eraseIdx]
        (refine AO.append' (i := 1) rfl rfl rfl rfl (by rfl) (by rfl) rfl rfl rfl (by exact SrcA.ro TyD.ax (by rfl) (Nat.le_of_ble_eq_true rfl)) (by rfl) (by (unfold maxLen; omega)) (by omega) (by (dsimp only [List.set, List.append, List.cons_append, List.nil_append, AV.cells, splice, List.take, List.drop, Nat.reduceAdd]; done)) (fun _ => by (dsimp only [List.set]; done)) ?_)
        intro V7 hV7
        refine AO.op (O.assign rfl rfl) rfl rfl rfl ?_
        refine AO.nil ?_
        refine AQ.blockN ?_
        refine AQ.blockN ?_
        refine AQ.thenN ?_
        refine AW.region ?_
        refine AO.op (O.add rfl rfl rfl (by exact wI64 (by omega))) rfl rfl rfl ?_
        refine AO.op (O.move rfl rfl) rfl rfl rfl ?_
        refine AO.nil ?_
        refine AQ.loopKN _ _ _ (by omega) (⟨k + 1, _, Vb, Vc, by omega, ‹_›, hVb, hVc, rfl, rfl, by rw [hs2, hs3, hs4, wtsA_snoc, List.length_append]⟩) (by repeat (first | exact envNil | refine envCons rfl ?_)) (by repeat (first | exact envNil | refine envCons rfl ?_)) (by repeat (first | exact subPnil | refine subPcons 1 rfl ?_))
      · skip
        refine AW.seq ?_
        refine AW.region ?_
        refine AO.op (O.fieldAddr rfl rfl) rfl rfl rfl ?_
        refine AO.op (O.load rfl rfl (by repeat (exact List.Mem.head _)) (by rfl)) rfl rfl rfl ?_
        refine AO.op (O.gtr rfl rfl rfl (by rfl)) rfl rfl rfl ?_
        refine AO.op (O.assign rfl rfl) rfl rfl rfl ?_
        refine AO.nil ?_
        refine AQ.thenN ?_
        refine AW.split rfl (fun h45 => ?_) (fun h45 => ?_) <;> (try simp only [decide_eq_true_eq, decide_eq_false_iff_not, beq_iff_eq, beq_eq_false_iff_ne, bne_iff_ne, bne_eq_false_iff_eq, Bool.not_eq_true', Bool.not_eq_false', Bool.not_eq_true, Bool.not_eq_false, ne_eq, Int.not_lt, Int.not_le, Bool.and_eq_true, Bool.or_eq_true, Bool.or_eq_false_iff, Bool.and_eq_false_imp, strOf_toList, Decidable.not_not] at h45)
        · skip
          rw [stayF, if_neg (by omega), if_neg (by omega), Option.toList_none, List.append_nil] at hs2
          rw [againF, if_neg (by omega), if_neg (by omega), Option.toList_none, List.append_nil] at hs3
          rw [overF, if_neg (by omega), if_neg (by omega), Option.toList_some] at hs4
          refine AW.region ?_
          refine AO.op (O.move rfl rfl) rfl rfl rfl ?_
          refine AO.op (O.loadK rfl rfl (by repeat (exact List.Mem.head _)) (by rfl) (by rfl)) rfl rfl rfl ?_
          refine AO.opB (O.buildSlice rfl rfl rfl (by rfl) (by rfl) (by rfl) (by rfl)) rfl rfl rfl ?_
          intro B8
          refine AO.g ?_
          (refine G.freezeSl 0 72 rfl rfl ⟨Nat.le_refl _, by unfold maxLen; omega⟩ ?_)
          refine G.unfull 72 rfl ?_
          refine AO.u ?_
          dsimp only [List.eraseIdx]
          (refine AO.append' (i := 3) rfl rfl rfl rfl (by rfl) (by rfl) rfl rfl rfl (by exact SrcA.ro TyD.ax (by rfl) (Nat.le_of_ble_eq_true rfl)) (by rfl) (by (unfold maxLen; omega)) (by omega) (by (dsimp only [List.set, List.append, List.cons_append, List.nil_append, AV.cells, splice, List.take, List.drop, Nat.reduceAdd]; done)) (fun _ => by (dsimp only [List.set]; done)) ?_)
          intro V9 hV9
          refine AO.op (O.assign rfl rfl) rfl rfl rfl ?_
          refine AO.nil ?_
          refine AQ.blockN ?_
          refine AQ.blockN ?_
          refine AQ.thenN ?_
          refine AW.region ?_
          refine AO.op (O.add rfl rfl rfl (by exact wI64 (by omega))) rfl rfl rfl ?_
          refine AO.op (O.move rfl rfl) rfl rfl rfl ?_
          refine AO.nil ?_
          refine AQ.loopKN _ _ _ (by omega) (⟨k + 1, Va, Vb, _, by omega, hVa, hVb, ‹_›, rfl, rfl, by rw [hs2, hs3, hs4, wtsA_snoc, List.length_append]⟩) (by repeat (first | exact envNil | refine envCons rfl ?_)) (by repeat (first | exact envNil | refine envCons rfl ?_)) (by repeat (first | exact subPnil | refine subPcons 1 rfl ?_))
        · skip
          rw [stayF, if_neg (by omega), if_pos h45, Option.toList_some] at hs2
          rw [againF, if_neg (by omega), if_pos h45, Option.toList_some] at hs3
          rw [overF, if_neg (by omega), if_pos h45, Option.toList_none, List.append_nil] at hs4
          have hpw := pw_bd (s := w.sent) (by omega) h45
          refine AW.seq ?_
          refine AW.region ?_
          refine AO.op (O.move rfl rfl) rfl rfl rfl ?_
          refine AO.op (O.fieldAddr rfl rfl) rfl rfl rfl ?_
          refine AO.op (O.load rfl rfl (by repeat (exact List.Mem.head _)) (by rfl)) rfl rfl rfl ?_
          refine AO.op (O.conv rfl rfl (by exact wU64 (by omega))) rfl rfl rfl ?_
          refine AO.op (O.shl rfl rfl rfl (by omega) (shl_pw (s := w.sent) (by omega) h45)) rfl rfl rfl ?_
          refine AO.op (O.add rfl rfl rfl (by exact wI64 (by omega))) rfl rfl rfl ?_
          refine AO.op (O.fieldAddr rfl rfl) rfl rfl rfl ?_
          (refine AO.store (i := 0) rfl rfl rfl rfl rfl rfl (by rfl) (by rfl) (by rfl) (by (dsimp only [List.set, List.append, List.cons_append, List.nil_append, AV.cells, splice, List.take, List.drop, Nat.reduceAdd]; done)) (by (dsimp only [List.set, List.append, List.cons_append, List.nil_append, AV.cells, splice, List.take, List.drop, Nat.reduceAdd]; done)) ?_)
          refine AO.nil ?_
          refine AQ.thenN ?_
          refine AW.seq ?_
          refine AW.region ?_
          refine AO.op (O.fieldAddr rfl rfl) rfl rfl rfl ?_
          refine AO.op (O.load rfl rfl (by repeat (exact List.Mem.head _)) (by rfl)) rfl rfl rfl ?_
          refine AO.op (O.add rfl rfl rfl (by exact wI64 (by omega))) rfl rfl rfl ?_
          refine AO.op (O.fieldAddr rfl rfl) rfl rfl rfl ?_
          (refine AO.store (i := 0) rfl rfl rfl rfl rfl rfl (by rfl) (by rfl) (by rfl) (by (dsimp only [List.set, List.append, List.cons_append, List.nil_append, AV.cells, splice, List.take, List.drop, Nat.reduceAdd]; done)) (by (dsimp only [List.set, List.append, List.cons_append, List.nil_append, AV.cells, splice, List.take, List.drop, Nat.reduceAdd]; done)) ?_)
          refine AO.nil ?_
          refine AQ.thenN ?_
          refine AW.seq ?_
          refine AW.region ?_
          refine AO.op (O.move rfl rfl) rfl rfl rfl ?_
          refine AO.op (O.loadK rfl rfl (by repeat (exact List.Mem.head _)) (by rfl) (by rfl)) rfl rfl rfl ?_
          refine AO.opB (O.buildSlice rfl rfl rfl (by rfl) (by rfl) (by rfl) (by rfl)) rfl rfl rfl ?_
          intro B10
          refine AO.g ?_
          (refine G.freezeSl 0 42 rfl rfl ⟨Nat.le_refl _, by unfold maxLen; omega⟩ ?_)
          refine G.unfull 42 rfl ?_
          refine AO.u ?_
          dsimp only [List.eraseIdx]
          (refine AO.append' (i := 1) rfl rfl rfl rfl (by rfl) (by rfl) rfl rfl rfl (by exact SrcA.ro TyD.ax (by rfl) (Nat.le_of_ble_eq_true rfl)) (by rfl) (by (unfold maxLen; omega)) (by omega) (by (dsimp only [List.set, List.append, List.cons_append, List.nil_append, AV.cells, splice, List.take, List.drop, Nat.reduceAdd]; done)) (fun _ => by (dsimp only [List.set]; done)) ?_)
          intro V11 hV11
          refine AO.op (O.assign rfl rfl) rfl rfl rfl ?_
          refine AO.nil ?_
          refine AQ.thenN ?_
          refine AW.regionD 12 (by kernel_rfl) (by kernel_rfl) ?_
          simp only [List.take_succ_cons, List.take_zero, List.drop_succ_cons, List.drop_zero]
          refine FA.op (O.move rfl rfl) rfl rfl rfl rfl ?_
          refine FA.op (O.fieldAddr rfl rfl) rfl rfl rfl rfl ?_
          refine FA.op (O.load rfl rfl (by repeat (exact List.Mem.head _)) (by rfl)) rfl rfl rfl rfl ?_
          refine FA.op (O.fieldAddr rfl rfl) rfl rfl rfl rfl ?_
          refine FA.op (O.loadK rfl rfl (by repeat (exact List.Mem.head _)) (by rfl) (by rfl)) rfl rfl rfl rfl ?_
          refine FA.op (O.call rfl Try.func51 rfl rfl rfl (copy_fn w.m hmm)) rfl rfl rfl rfl ?_
          refine FA.op (O.fieldAddr rfl rfl) rfl rfl rfl rfl ?_
          refine FA.op (O.load rfl rfl (by repeat (exact List.Mem.head _)) (by rfl)) rfl rfl rfl rfl ?_
          refine FA.op (O.fieldAddr rfl rfl) rfl rfl rfl rfl ?_
          refine FA.op (O.load rfl rfl (by repeat (exact List.Mem.head _)) (by rfl)) rfl rfl rfl rfl ?_
          refine FA.op (O.build rfl rfl rfl (by rfl)) rfl rfl rfl rfl ?_
          refine FA.op (OpW.frz (O.buildSlice rfl rfl rfl (by rfl) (by rfl) (by rfl) (by rfl)) (by (unfold maxLen; omega))) rfl rfl rfl rfl ?_
          refine FA.nil ?_
          simp only [chosen, List.nil_append, List.cons_append, List.append_nil]
          (refine AO.append' (i := 2) rfl rfl rfl rfl (by rfl) (by rfl) rfl rfl rfl (by exact SrcA.ro TyD.ax (by rfl) (Nat.le_of_ble_eq_true rfl)) (by rfl) (by (unfold maxLen; omega)) (by omega) (by (dsimp only [List.set, List.append, List.cons_append, List.nil_append, AV.cells, splice, List.take, List.drop, Nat.reduceAdd]; done)) (fun _ => by (dsimp only [List.set]; done)) ?_)
          intro V12 hV12
          refine AO.op (O.assign rfl rfl) rfl rfl rfl ?_
          refine AO.nil ?_
          refine AQ.blockN ?_
          refine AQ.blockN ?_
          refine AQ.thenN ?_
          refine AW.region ?_
          refine AO.op (O.add rfl rfl rfl (by exact wI64 (by omega))) rfl rfl rfl ?_
          refine AO.op (O.move rfl rfl) rfl rfl rfl ?_
          refine AO.nil ?_
          refine AQ.loopKN _ _ _ (by omega) (⟨k + 1, V11, V12, Vc, by omega, hV11, hV12, hVc, rfl, rfl, by rw [hs2, hs3, hs4, wtsA_snoc, wtsA_snoc, List.length_append, List.length_append]⟩) (by repeat (first | exact envNil | refine envCons rfl ?_)) (by repeat (first | exact envNil | refine envCons rfl ?_)) (by repeat (first | exact subPnil | refine subPcons 1 rfl ?_))
    · skip
      obtain rfl : k = e.out.length := by omega
      rw [List.take_length]
      refine AW.exit ?_
      refine AQ.thenX ?_
      refine AQ.loopX ?_
      refine AQ.blockX rfl ?_
      refine AQ.thenN ?_
      refine AW.seq ?_
      refine AW.region ?_
      refine AO.op (O.move rfl rfl) rfl rfl rfl ?_
      refine AO.op (O.fieldAddr rfl rfl) rfl rfl rfl ?_
      (refine AO.store (i := 3) rfl rfl rfl rfl rfl rfl (by (simp [AV.cells, AV.one, *]; done)) (by rfl) (by rfl) (by (dsimp only [List.set, List.append, List.cons_append, List.nil_append, AV.cells, splice, List.take, List.drop, Nat.reduceAdd]; done)) (by (dsimp only [List.set, List.append, List.cons_append, List.nil_append, AV.cells, splice, List.take, List.drop, Nat.reduceAdd]; done)) ?_)
      refine AO.nil ?_
      refine AQ.thenN ?_
      refine AW.seq ?_
      refine AW.region ?_
      refine AO.op (O.loadK rfl rfl (by repeat (first | exact List.Mem.head _ | refine List.Mem.tail _ ?_)) (by rfl) (by rfl)) rfl rfl rfl ?_
      refine AO.op (O.move rfl rfl) rfl rfl rfl ?_
      refine AO.op (O.move rfl rfl) rfl rfl rfl ?_
      (refine AO.store (i := 6) rfl rfl rfl rfl rfl rfl (by (simp [AV.cells, AV.one, roB, roI, roO, show ∀ k z, (Value.int k z).oneCell' = true from fun _ _ => rfl, show ∀ k, (Value.bool k).oneCell' = true from fun _ => rfl, *]; done)) (by rfl) (by rfl) (by (dsimp only [List.set, List.append, List.cons_append, List.nil_append, AV.cells, splice, List.take, List.drop, Nat.reduceAdd]; done)) (by (dsimp only [List.set, List.append, List.cons_append, List.nil_append, AV.cells, splice, List.take, List.drop, Nat.reduceAdd]; done)) ?_)
      refine AO.op (O.assign rfl rfl) rfl rfl rfl ?_
      refine AO.op (O.assign rfl rfl) rfl rfl rfl ?_
      refine AO.op (O.assign rfl rfl) rfl rfl rfl ?_
      refine AO.nil ?_
      refine AQ.thenN ?_
      refine AW.ret ?_
      refine AQ.g ?_
      refine G.freezeCell 0 5 1 rfl rfl rfl ?_
      refine AQ.u ?_
      dsimp only [List.eraseIdx, List.set]
      refine AQ.g ?_
      refine G.freezeCell 3 4 3 rfl rfl rfl ?_
      refine AQ.u ?_
      dsimp only [List.eraseIdx, List.set]
      refine AQ.g ?_
      refine G.freezeCell 3 3 2 rfl rfl rfl ?_
      refine AQ.u ?_
      dsimp only [List.eraseIdx, List.set]
      refine AQ.g ?_
      refine G.freezeRow 0 rfl [5] (by repeat (first | exact frNil | refine frCons rfl ?_)) ?_
      refine AQ.u ?_
      dsimp only [List.map, List.eraseIdx, List.cons_append, List.nil_append]
      refine AQ.g ?_
      refine G.freezeRow 0 rfl [6] (by repeat (first | exact frNil | refine frCons rfl ?_)) ?_
      refine AQ.u ?_
      dsimp only [List.map, List.eraseIdx, List.cons_append, List.nil_append]
      refine FnQ.coe (AQ.ret4G rfl (by exact ResAt.cell rfl (by repeat (first | exact List.Mem.head _ | refine List.Mem.tail _ ?_)) (by (dsimp only [List.set, List.append, List.cons_append, List.nil_append, AV.cells, splice, List.take, List.drop, Nat.reduceAdd]; done)) (by rfl)) (by exact ResAt.tmp rfl) (by exact ResAt.tmp rfl) (by exact ResAt.tmp rfl) ⟨_, List.nil_sublist _, .nil⟩ ⟨rfl, rfl⟩) (Coe.tup (by (repeat (first | exact CoeL.nil | refine CoeL.cons Coe.rfl ?_)); done)) (ret4T e1 rfl)
end Go.Proofs.Ytdnmilmcdbgppaa.By

namespace Go.Proofs.Ytdnmilmcdbgppaa.By
open Go.RowKit L A
set_option linter.unusedVariables false
set_option maxRecDepth 20000
set_option linter.unusedSimpArgs false
attribute [local irreducible] AW AQ AO
theorem fi_some {α : Type} (p : α → Bool) (d : α) {l : List α} {k : Nat} (h : k < l.length) (hp : p (l.getD k d) = true) (hn : ∀ q, q < k → p (l.getD q d) = false) : l.findIdx? p = some k := by
  rw [List.findIdx?_eq_some_iff_getElem]
  have e : ∀ q (hq : q < l.length), l.getD q d = l[q] := fun q hq => by simp [hq]
  refine ⟨h, by rw [← e]; exact hp, fun q hq => ?_⟩
  rw [← e, hn q hq]; simp
theorem fi_none {α : Type} (p : α → Bool) (d : α) {l : List α} (hn : ∀ q, q < l.length → p (l.getD q d) = false) : l.findIdx? p = none := by
  rw [List.findIdx?_eq_none_iff]
  intro x hx
  obtain ⟨q, hq, rfl⟩ := List.getElem_of_mem hx
  have := hn q hq
  simpa [hq] using this
def hB (peer id : Int) (h : Hd) : Bool := h.peer == peer && h.id == id
def endR (c : Ep) (p : Int) (m : Msg) : Ep × Int × Msg × Int := match c.out.findIdx? (wB p m.id) with
  | some i => (⟨c.next, c.out.eraseIdx i, c.used, c.inn⟩, if m.ty = 3 then 4 else 3, Msg.none, 0)
  | none => (c, 5, Msg.none, 0)
theorem wts_cut (l : List Wt) {i n : Nat} (h : i < l.length) (hn : n = l.length - (i + 1)) {a b c : Nat} (ha : a = i * 9) (hb : b = (i + 1) * 9) (hc : c = n * 9) : (wtsA l).take a ++ ((wtsA l).drop b).take c = wtsA (l.eraseIdx i) := by
  subst ha hb hc
  rw [wtsA, flat_take cellsW_len, flat_drop cellsW_len, flat_take cellsW_len, List.take_of_length_le (l := l.drop (i + 1)) (by rw [List.length_drop]; omega), ← List.flatMap_append, ← List.eraseIdx_eq_take_drop_succ]
  rfl
theorem wts_cut0 (l : List Wt) {i : Nat} (h : i + 1 = l.length) {a : Nat} (ha : a = i * 9) : (wtsA l).take a ++ [] = wtsA (l.eraseIdx i) := by
  subst ha
  rw [wtsA, flat_take cellsW_len, List.eraseIdx_eq_take_drop_succ, List.drop_of_length_le (by omega), List.append_nil, List.append_nil]
  rfl
theorem rowEq {V : Value} {T k n n' : Nat} {xs xs' : List AV} (h1 : n = n') (h2 : xs = xs') : [HE.row V T k n xs] = [HE.row V T k n' xs'] := by subst h1 h2; rfl
/-- The caller's row of what waits is given along. -/
def EndP (c : Ep) (p : Int) (m : Msg) (x2 x3 : AV) : AV → List HE → Prop := fun r H' => ∃ V : Value, V.oneCell' = true ∧
  r = .tup [.agg [.val (.int .i64 c.next), .val V, x2, x3], .val (.int .i64 (endR c p m).2.1), aggM Msg.none, .val (.int .i64 0)] ∧ H' = [.row V 71 9 (endR c p m).1.out.length (wtsA (endR c p m).1.out)]
theorem retEnd {c : Ep} {p : Int} {m : Msg} {x2 x3 q : AV} {H' : List HE} {a : Ep} {k : Int} (V : Value) (hV : V.oneCell' = true) (h : endR c p m = (a, k, Msg.none, 0)) (hq : q = .tup [.agg [.val (.int .i64 c.next), .val V, x2, x3], .val (.int .i64 k), aggM Msg.none, .val (.int .i64 0)])
    (hH : H' = [.row V 71 9 a.out.length (wtsA a.out)]) : EndP c p m x2 x3 q H' := ⟨V, hV, by rw [h]; exact hq, by rw [h]; exact hH⟩
theorem one_dt {xs : List AV} (h : xs.all AV.one = true) (a b : Nat) : ((xs.drop a).take b).all AV.one = true := by
  rw [List.all_eq_true] at h ⊢
  exact fun x hx => h x (List.mem_of_mem_drop (List.mem_of_mem_take hx))
set_option maxHeartbeats 4000000 in
theorem ended_fn (c : Ep) (p : Int) (m : Msg) (V1 V2 V3 : Value) (h1 : V1.oneCell' = true) (h2 : V2.oneCell' = true) (h3 : V3.oneCell' = true) (hl : c.out.length ≤ 1000) : Sp Try.prog 53 [.agg [.val (.int .i64 c.next), .val V1, .val V2, .val V3], .val (.int .i64 p), aggM m] [.row V1 71 9 c.out.length (wtsA c.out)] (EndP c p m (.val V2) (.val V3)) := by
  refine Sp.enter Try.func53 rfl _ Try.ntmps53 rfl (fun w0 R0 => ?_)
  refine AW.seq ?_
  refine AW.region ?_
  refine AO.opB (O.box rfl rfl rfl rfl rfl) rfl rfl rfl ?_
  intro B1
  refine AO.opB (O.box rfl rfl rfl rfl rfl) rfl rfl rfl ?_
  intro B2
  refine AO.opB (O.alloc rfl (by (dsimp only [zerosA, List.replicate, List.append, List.flatten, AV.cells, Value.cells, List.toList_toArray, List.map]; done)) (by rfl)) rfl rfl rfl ?_
  intro B3
  refine AO.op (O.assign rfl rfl) rfl rfl rfl ?_
  refine AO.opB (O.alloc rfl (by (dsimp only [zerosA, List.replicate, List.append, List.flatten, AV.cells, Value.cells, List.toList_toArray, List.map]; done)) (by rfl)) rfl rfl rfl ?_
  intro B4
  refine AO.op (O.assign rfl rfl) rfl rfl rfl ?_
  refine AO.nil ?_
  refine AQ.thenN ?_
  refine AW.seq ?_
  refine AW.seq ?_
  refine AW.region ?_
  refine AO.op (O.fieldAddr rfl rfl) rfl rfl rfl ?_
  refine AO.op (O.load rfl rfl (by repeat (first | exact List.Mem.head _ | refine List.Mem.tail _ ?_)) (by rfl)) rfl rfl rfl ?_
  refine AO.op (O.lenRow rfl rfl (by repeat (first | exact List.Mem.head _ | refine List.Mem.tail _ ?_))) rfl rfl rfl ?_
  refine AO.op (O.move rfl rfl) rfl rfl rfl ?_
  refine AO.nil ?_
  refine AQ.thenN ?_
  refine AW.block ?_
  refine AW.loopK [(1, _), (3, _), (5, _), (6, _), (8, _), (13, _), (14, _)] (fun nn E H => ∃ (k : Nat), (k ≤ c.out.length) ∧ (∀ q, q < k → wB p m.id (wt c.out q) = false) ∧ nn = c.out.length - k ∧ E = [(15, .val (.int .i64 (k : Int)))] ∧ H = [.blk B4 31 6 [.val (.int .i64 0), .val (.int .i64 0), .val (.int .i64 0), .val nilS, .val nilS, .val nilS], .blk B3 26 4 [.val (.int .i64 0), .val nilS, .val nilS, .val nilS], .blk B2 31 6 [.val (.int .i64 m.ty), .val (.int .i64 m.code), .val (.int .i64 m.id), roB m.tok, roO m.opts, roB m.pay], .blk B1 26 4 [.val (.int .i64 c.next), .val V1, .val V2, .val V3], .row V1 71 9 c.out.length (wtsA c.out)]) _ (⟨0, by omega, fun q hq => absurd hq (by omega), rfl, rfl, rfl⟩) (by repeat (first | exact envNil | refine envCons rfl ?_)) (by repeat (first | exact envNil | refine envCons rfl ?_)) (by repeat (first | exact subPnil | refine subPcons 0 rfl ?_)) ?_
  rintro nn E H ⟨k, hk1, hn, rfl, rfl, rfl⟩
  dsimp only [List.cons_append, List.nil_append]
  refine AW.seq ?_
  refine AW.region ?_
  refine AO.op (O.lss rfl rfl rfl (by rfl)) rfl rfl rfl ?_
  refine AO.nil ?_
  refine AQ.thenN ?_
  refine AW.seq ?_
  refine AW.split rfl (fun hlt => ?_) (fun hlt => ?_) <;> (try simp only [decide_eq_true_eq, decide_eq_false_iff_not, beq_iff_eq, beq_eq_false_iff_ne, bne_iff_ne, bne_eq_false_iff_eq, Bool.not_eq_true', Bool.not_eq_false', Bool.not_eq_true, Bool.not_eq_false, ne_eq, Int.not_lt, Int.not_le, Bool.and_eq_true, Bool.or_eq_true, Bool.or_eq_false_iff, Bool.and_eq_false_imp, strOf_toList, Decidable.not_not] at hlt)
  · skip
    have hk : k < c.out.length := by omega
    have hgw : ((wtsA c.out).drop (0 + Int.toNat (k : Int) * 9)).take 9 = cW (wt c.out k) := by rw [Nat.zero_add]; exact getW hk (by omega)
    refine AW.g ?_
    refine G.openRow 4 rfl (by omega) (fun b cap hc1 hc2 hxs hVe => ?_)
    refine AW.u ?_
    subst hVe
    dsimp only [List.set]
    refine AW.skip ?_
    refine AQ.thenN ?_
    refine AW.seq ?_
    refine AW.block ?_
    refine AW.seq ?_
    refine AW.region ?_
    refine AO.op (O.move rfl rfl) rfl rfl rfl ?_
    refine AO.op (O.idxV rfl rfl rfl ⟨(by omega), (by omega)⟩) rfl rfl rfl ?_
    refine AO.op (O.loadK rfl rfl (by repeat (first | exact List.Mem.head _ | refine List.Mem.tail _ ?_)) (by exact hgw) (by rfl)) rfl rfl rfl ?_
    refine AO.opB (O.alloc rfl (by (dsimp only [zerosA, List.replicate, List.append, List.flatten, AV.cells, Value.cells, List.toList_toArray, List.map]; done)) (by rfl)) rfl rfl rfl ?_
    intro B5
    refine AO.op (O.assign rfl rfl) rfl rfl rfl ?_
    (refine AO.store (i := 0) rfl rfl rfl rfl rfl rfl (by rfl) (by rfl) (by rfl) (by (dsimp only [List.set, List.append, List.cons_append, List.nil_append, AV.cells, splice, List.take, List.drop, Nat.reduceAdd]; done)) (by (dsimp only [List.set, List.append, List.cons_append, List.nil_append, AV.cells, splice, List.take, List.drop, Nat.reduceAdd]; done)) ?_)
    refine AO.nil ?_
    refine AQ.thenN ?_
    refine AW.seq ?_
    refine AW.seq ?_
    refine AW.region ?_
    refine AO.op (O.fieldAddr rfl rfl) rfl rfl rfl ?_
    refine AO.op (O.load rfl rfl (by repeat (exact List.Mem.head _)) (by rfl)) rfl rfl rfl ?_
    refine AO.op (O.move rfl rfl) rfl rfl rfl ?_
    refine AO.op (O.neq rfl rfl rfl (by rfl)) rfl rfl rfl ?_
    refine AO.op (O.move rfl rfl) rfl rfl rfl ?_
    refine AO.opG rfl rfl rfl (fun hp => O.fieldAddr rfl rfl) ?_
    refine AO.opG rfl rfl rfl (fun hp => OpW.force 25 rfl (by exact hp) (O.fieldAddr rfl rfl)) ?_
    refine AO.opG rfl rfl rfl (fun hp => OpW.force 26 rfl (by exact hp) (O.load rfl rfl (by repeat (exact List.Mem.head _)) (by rfl))) ?_
    refine AO.opG rfl rfl rfl (fun hp => O.fieldAddr rfl rfl) ?_
    refine AO.opG rfl rfl rfl (fun hp => OpW.force 28 rfl (by exact hp) (O.load rfl rfl (by repeat (first | exact List.Mem.head _ | refine List.Mem.tail _ ?_)) (by rfl))) ?_
    refine AO.opG rfl rfl rfl (fun hp => OpW.force 27 rfl (by exact hp) (OpW.force 29 rfl (by exact hp) (O.neq rfl rfl rfl (by rfl)))) ?_
    refine AO.op (O.pickOr rfl rfl rfl rfl (fun h => by exact congrArg (fun b => !b) h)) rfl rfl rfl ?_
    refine AO.nil ?_
    refine AQ.thenN ?_
    refine AW.split rfl (fun h31 => ?_) (fun h31 => ?_) <;> (try simp only [decide_eq_true_eq, decide_eq_false_iff_not, beq_iff_eq, beq_eq_false_iff_ne, bne_iff_ne, bne_eq_false_iff_eq, Bool.not_eq_true', Bool.not_eq_false', Bool.not_eq_true, Bool.not_eq_false, ne_eq, Int.not_lt, Int.not_le, Bool.and_eq_true, Bool.or_eq_true, Bool.or_eq_false_iff, Bool.and_eq_false_imp, strOf_toList, Decidable.not_not] at h31)
    · skip
      refine AW.exit ?_
      refine AQ.thenX ?_
      refine AQ.blockX rfl ?_
      refine AQ.thenN ?_
      refine AW.region ?_
      refine AO.op (O.add rfl rfl rfl (by exact wI64 (by omega))) rfl rfl rfl ?_
      refine AO.op (O.move rfl rfl) rfl rfl rfl ?_
      refine AO.nil ?_
      refine AQ.g ?_
      refine G.closeRow (b := b) (sz := 9) (n := c.out.length) (cap := cap) 5 rfl hxs rfl hc1 hc2 ?_
      refine AQ.u ?_
      dsimp only [List.set]
      refine AQ.loopKN _ _ _ (by omega) (⟨k + 1, by omega, fun q hq => (Nat.lt_or_ge q k).elim (hn q) (fun h => by rw [show q = k by omega, wB, Bool.eq_false_iff, ne_eq, Bool.and_eq_true, beq_iff_eq, beq_iff_eq]; exact fun ⟨a, b⟩ => h31.elim (fun f => f a) (fun f => f b)), rfl, rfl, rfl⟩) (by repeat (first | exact envNil | refine envCons rfl ?_)) (by repeat (first | exact envNil | refine envCons rfl ?_)) (by repeat (first | exact subPnil | refine subPcons 1 rfl ?_))
    · skip
      have e0 := fi_some (wB p m.id) Wt.none hk (by rw [wB, Bool.and_eq_true, beq_iff_eq, beq_iff_eq]; exact h31) hn
      skip
      rcases Nat.lt_or_ge (k + 1) c.out.length with hlast | hlast
      · skip
        refine AW.skip ?_
        refine AQ.thenN ?_
        refine AW.seq ?_
        refine AW.regionD 9 (by kernel_rfl) (by kernel_rfl) ?_
        simp only [List.take_succ_cons, List.take_zero, List.drop_succ_cons, List.drop_zero]
        refine FA.op (O.fieldAddr rfl rfl) rfl rfl rfl rfl ?_
        refine FA.op (O.load rfl rfl (by repeat (first | exact List.Mem.head _ | refine List.Mem.tail _ ?_)) (by rfl)) rfl rfl rfl rfl ?_
        refine FA.op (O.move rfl rfl) rfl rfl rfl rfl ?_
        refine FA.op (O.sliceV rfl rfl rfl rfl ⟨by omega, by omega, by omega⟩ (by omega)) rfl rfl rfl rfl ?_
        refine FA.op (O.fieldAddr rfl rfl) rfl rfl rfl rfl ?_
        refine FA.op (O.load rfl rfl (by repeat (first | exact List.Mem.head _ | refine List.Mem.tail _ ?_)) (by rfl)) rfl rfl rfl rfl ?_
        refine FA.op (O.move rfl rfl) rfl rfl rfl rfl ?_
        refine FA.op (O.add rfl rfl rfl (by exact wI64 (by omega))) rfl rfl rfl rfl ?_
        refine FA.op (O.sliceV rfl rfl rfl rfl ⟨by omega, by omega, by omega⟩ (by omega)) rfl rfl rfl rfl ?_
        refine FA.nil ?_
        simp only [chosen, List.nil_append, List.cons_append, List.append_nil]
        (refine AO.appendCut (i := 5) rfl rfl rfl rfl (by rfl) (by rfl) rfl rfl rfl (by omega) (by exact SrcA.blk TyD.ax (by repeat (first | exact List.Mem.head _ | refine List.Mem.tail _ ?_)) (by (dsimp only [List.set, List.append, List.cons_append, List.nil_append, AV.cells, splice, List.take, List.drop, Nat.reduceAdd]; done)) (by (simp; omega))) (by exact one_dt (wtsA_one _) _ _) (by (unfold maxLen; omega)) (by omega) ⟨by omega, by assumption⟩ (by (dsimp only [List.set, List.append, List.cons_append, List.nil_append, AV.cells, splice, List.take, List.drop, Nat.reduceAdd]; done)) (fun _ => by (dsimp only [List.set]; done)) ?_)
        intro V6 hV6
        refine AO.op (O.fieldAddr rfl rfl) rfl rfl rfl ?_
        (refine AO.store (i := 4) rfl rfl rfl rfl rfl rfl (by (simp [AV.cells, AV.one, *]; done)) (by rfl) (by rfl) (by (dsimp only [List.set, List.append, List.cons_append, List.nil_append, AV.cells, splice, List.take, List.drop, Nat.reduceAdd]; done)) (by (dsimp only [List.set, List.append, List.cons_append, List.nil_append, AV.cells, splice, List.take, List.drop, Nat.reduceAdd]; done)) ?_)
        refine AO.nil ?_
        refine AQ.thenN ?_
        refine AW.seq ?_
        refine AW.seq ?_
        refine AW.region ?_
        refine AO.op (O.fieldAddr rfl rfl) rfl rfl rfl ?_
        refine AO.op (O.load rfl rfl (by repeat (first | exact List.Mem.head _ | refine List.Mem.tail _ ?_)) (by rfl)) rfl rfl rfl ?_
        refine AO.op (O.eql rfl rfl rfl (by rfl)) rfl rfl rfl ?_
        refine AO.nil ?_
        refine AQ.thenN ?_
        refine AW.split rfl (fun h45 => ?_) (fun h45 => ?_) <;> (try simp only [decide_eq_true_eq, decide_eq_false_iff_not, beq_iff_eq, beq_eq_false_iff_ne, bne_iff_ne, bne_eq_false_iff_eq, Bool.not_eq_true', Bool.not_eq_false', Bool.not_eq_true, Bool.not_eq_false, ne_eq, Int.not_lt, Int.not_le, Bool.and_eq_true, Bool.or_eq_true, Bool.or_eq_false_iff, Bool.and_eq_false_imp, strOf_toList, Decidable.not_not] at h45)
        · skip
          have e1 : endR c p m = (⟨c.next, c.out.eraseIdx k, c.used, c.inn⟩, 4, Msg.none, 0) := by rw [endR, e0]; show (_, (if m.ty = 3 then (4 : Int) else 3), _, _) = _; rw [if_pos h45]
          refine AW.seq ?_
          refine AW.region ?_
          refine AO.op (O.loadK rfl rfl (by repeat (first | exact List.Mem.head _ | refine List.Mem.tail _ ?_)) (by rfl) (by rfl)) rfl rfl rfl ?_
          refine AO.op (O.build rfl rfl rfl (by rfl)) rfl rfl rfl ?_
          (refine AO.store (i := 2) rfl rfl rfl rfl rfl rfl (by (simp [AV.cells, AV.one, roB, roI, roO, show ∀ k z, (Value.int k z).oneCell' = true from fun _ _ => rfl, show ∀ k, (Value.bool k).oneCell' = true from fun _ => rfl, *]; done)) (by rfl) (by rfl) (by (dsimp only [List.set, List.append, List.cons_append, List.nil_append, AV.cells, splice, List.take, List.drop, Nat.reduceAdd]; done)) (by (dsimp only [List.set, List.append, List.cons_append, List.nil_append, AV.cells, splice, List.take, List.drop, Nat.reduceAdd]; done)) ?_)
          refine AO.op (O.assign rfl rfl) rfl rfl rfl ?_
          (refine AO.store (i := 1) rfl rfl rfl rfl rfl rfl (by rfl) (by rfl) (by rfl) (by (dsimp only [List.set, List.append, List.cons_append, List.nil_append, AV.cells, splice, List.take, List.drop, Nat.reduceAdd]; done)) (by (dsimp only [List.set, List.append, List.cons_append, List.nil_append, AV.cells, splice, List.take, List.drop, Nat.reduceAdd]; done)) ?_)
          refine AO.op (O.assign rfl rfl) rfl rfl rfl ?_
          refine AO.nil ?_
          refine AQ.thenN ?_
          refine AW.ret ?_
          refine AQ.thenR ?_
          refine AQ.blockR ?_
          refine AQ.thenR ?_
          refine AQ.loopR ?_
          refine AQ.blockR ?_
          refine AQ.thenR ?_
          refine FnQ.coe (AQ.ret4G rfl (by exact ResAt.cell rfl (by repeat (first | exact List.Mem.head _ | refine List.Mem.tail _ ?_)) (by (dsimp only [List.set, List.append, List.cons_append, List.nil_append, AV.cells, splice, List.take, List.drop, Nat.reduceAdd]; done)) (by rfl)) (by exact ResAt.tmp rfl) (by exact ResAt.cell rfl (by repeat (first | exact List.Mem.head _ | refine List.Mem.tail _ ?_)) (by (dsimp only [List.set, List.append, List.cons_append, List.nil_append, AV.cells, splice, List.take, List.drop, Nat.reduceAdd]; done)) (by rfl)) (by exact ResAt.tmp rfl) ⟨_, by repeat (first | exact List.Sublist.slnil | refine List.Sublist.cons_cons _ ?_ | refine List.Sublist.cons _ ?_), List.Perm.refl _⟩ ⟨rfl, rfl⟩) (Coe.tup (by (repeat (first | exact CoeL.nil | refine CoeL.cons Coe.rfl ?_ | refine CoeL.cons Coe.nil ?_ | refine CoeL.cons (Coe.agg ?_) ?_)); done)) (retEnd V6 hV6 e1 rfl (rowEq (by simp only [List.length_eraseIdx, if_pos hk]; omega) (wts_cut c.out hk (n := (Int.toNat (c.out.length : Int)) - Int.toNat ((k : Int) + 1)) (by omega) (by omega) (by omega) (by omega))))
        · skip
          have e1 : endR c p m = (⟨c.next, c.out.eraseIdx k, c.used, c.inn⟩, 3, Msg.none, 0) := by rw [endR, e0]; show (_, (if m.ty = 3 then (4 : Int) else 3), _, _) = _; rw [if_neg h45]
          refine AW.skip ?_
          refine AQ.thenN ?_
          refine AW.seq ?_
          refine AW.region ?_
          refine AO.op (O.loadK rfl rfl (by repeat (first | exact List.Mem.head _ | refine List.Mem.tail _ ?_)) (by rfl) (by rfl)) rfl rfl rfl ?_
          refine AO.op (O.build rfl rfl rfl (by rfl)) rfl rfl rfl ?_
          (refine AO.store (i := 2) rfl rfl rfl rfl rfl rfl (by (simp [AV.cells, AV.one, roB, roI, roO, show ∀ k z, (Value.int k z).oneCell' = true from fun _ _ => rfl, show ∀ k, (Value.bool k).oneCell' = true from fun _ => rfl, *]; done)) (by rfl) (by rfl) (by (dsimp only [List.set, List.append, List.cons_append, List.nil_append, AV.cells, splice, List.take, List.drop, Nat.reduceAdd]; done)) (by (dsimp only [List.set, List.append, List.cons_append, List.nil_append, AV.cells, splice, List.take, List.drop, Nat.reduceAdd]; done)) ?_)
          refine AO.op (O.assign rfl rfl) rfl rfl rfl ?_
          (refine AO.store (i := 1) rfl rfl rfl rfl rfl rfl (by rfl) (by rfl) (by rfl) (by (dsimp only [List.set, List.append, List.cons_append, List.nil_append, AV.cells, splice, List.take, List.drop, Nat.reduceAdd]; done)) (by (dsimp only [List.set, List.append, List.cons_append, List.nil_append, AV.cells, splice, List.take, List.drop, Nat.reduceAdd]; done)) ?_)
          refine AO.op (O.assign rfl rfl) rfl rfl rfl ?_
          refine AO.nil ?_
          refine AQ.thenN ?_
          refine AW.ret ?_
          refine AQ.blockR ?_
          refine AQ.thenR ?_
          refine AQ.loopR ?_
          refine AQ.blockR ?_
          refine AQ.thenR ?_
          refine FnQ.coe (AQ.ret4G rfl (by exact ResAt.cell rfl (by repeat (first | exact List.Mem.head _ | refine List.Mem.tail _ ?_)) (by (dsimp only [List.set, List.append, List.cons_append, List.nil_append, AV.cells, splice, List.take, List.drop, Nat.reduceAdd]; done)) (by rfl)) (by exact ResAt.tmp rfl) (by exact ResAt.cell rfl (by repeat (first | exact List.Mem.head _ | refine List.Mem.tail _ ?_)) (by (dsimp only [List.set, List.append, List.cons_append, List.nil_append, AV.cells, splice, List.take, List.drop, Nat.reduceAdd]; done)) (by rfl)) (by exact ResAt.tmp rfl) ⟨_, by repeat (first | exact List.Sublist.slnil | refine List.Sublist.cons_cons _ ?_ | refine List.Sublist.cons _ ?_), List.Perm.refl _⟩ ⟨rfl, rfl⟩) (Coe.tup (by (repeat (first | exact CoeL.nil | refine CoeL.cons Coe.rfl ?_ | refine CoeL.cons Coe.nil ?_ | refine CoeL.cons (Coe.agg ?_) ?_)); done)) (retEnd V6 hV6 e1 rfl (rowEq (by simp only [List.length_eraseIdx, if_pos hk]; omega) (wts_cut c.out hk (n := (Int.toNat (c.out.length : Int)) - Int.toNat ((k : Int) + 1)) (by omega) (by omega) (by omega) (by omega))))
      · skip
        refine AW.skip ?_
        refine AQ.thenN ?_
        refine AW.seq ?_
        refine AW.regionD 9 (by kernel_rfl) (by kernel_rfl) ?_
        simp only [List.take_succ_cons, List.take_zero, List.drop_succ_cons, List.drop_zero]
        refine FA.op (O.fieldAddr rfl rfl) rfl rfl rfl rfl ?_
        refine FA.op (O.load rfl rfl (by repeat (first | exact List.Mem.head _ | refine List.Mem.tail _ ?_)) (by rfl)) rfl rfl rfl rfl ?_
        refine FA.op (O.move rfl rfl) rfl rfl rfl rfl ?_
        refine FA.op (O.sliceV rfl rfl rfl rfl ⟨by omega, by omega, by omega⟩ (by omega)) rfl rfl rfl rfl ?_
        refine FA.op (O.fieldAddr rfl rfl) rfl rfl rfl rfl ?_
        refine FA.op (O.load rfl rfl (by repeat (first | exact List.Mem.head _ | refine List.Mem.tail _ ?_)) (by rfl)) rfl rfl rfl rfl ?_
        refine FA.op (O.move rfl rfl) rfl rfl rfl rfl ?_
        refine FA.op (O.add rfl rfl rfl (by exact wI64 (by omega))) rfl rfl rfl rfl ?_
        refine FA.op (O.sliceV0 rfl rfl rfl rfl ⟨by omega, by omega, by omega⟩ (by omega) (by assumption)) rfl rfl rfl rfl ?_
        refine FA.nil ?_
        simp only [chosen, List.nil_append, List.cons_append, List.append_nil]
        (refine AO.appendCut (i := 5) rfl rfl rfl rfl (by rfl) (by rfl) rfl rfl rfl (by omega) (by exact SrcA.ro TyD.ax (by rfl) (Nat.le_of_ble_eq_true rfl)) (by rfl) (by (unfold maxLen; omega)) (by omega) ⟨by omega, by assumption⟩ (by (dsimp only [List.set, List.append, List.cons_append, List.nil_append, AV.cells, splice, List.take, List.drop, Nat.reduceAdd]; done)) (fun _ => by (dsimp only [List.set]; done)) ?_)
        intro V6 hV6
        refine AO.op (O.fieldAddr rfl rfl) rfl rfl rfl ?_
        (refine AO.store (i := 4) rfl rfl rfl rfl rfl rfl (by (simp [AV.cells, AV.one, *]; done)) (by rfl) (by rfl) (by (dsimp only [List.set, List.append, List.cons_append, List.nil_append, AV.cells, splice, List.take, List.drop, Nat.reduceAdd]; done)) (by (dsimp only [List.set, List.append, List.cons_append, List.nil_append, AV.cells, splice, List.take, List.drop, Nat.reduceAdd]; done)) ?_)
        refine AO.nil ?_
        refine AQ.thenN ?_
        refine AW.seq ?_
        refine AW.seq ?_
        refine AW.region ?_
        refine AO.op (O.fieldAddr rfl rfl) rfl rfl rfl ?_
        refine AO.op (O.load rfl rfl (by repeat (first | exact List.Mem.head _ | refine List.Mem.tail _ ?_)) (by rfl)) rfl rfl rfl ?_
        refine AO.op (O.eql rfl rfl rfl (by rfl)) rfl rfl rfl ?_
        refine AO.nil ?_
        refine AQ.thenN ?_
        refine AW.split rfl (fun h45 => ?_) (fun h45 => ?_) <;> (try simp only [decide_eq_true_eq, decide_eq_false_iff_not, beq_iff_eq, beq_eq_false_iff_ne, bne_iff_ne, bne_eq_false_iff_eq, Bool.not_eq_true', Bool.not_eq_false', Bool.not_eq_true, Bool.not_eq_false, ne_eq, Int.not_lt, Int.not_le, Bool.and_eq_true, Bool.or_eq_true, Bool.or_eq_false_iff, Bool.and_eq_false_imp, strOf_toList, Decidable.not_not] at h45)
        · skip
          have e1 : endR c p m = (⟨c.next, c.out.eraseIdx k, c.used, c.inn⟩, 4, Msg.none, 0) := by rw [endR, e0]; show (_, (if m.ty = 3 then (4 : Int) else 3), _, _) = _; rw [if_pos h45]
          refine AW.seq ?_
          refine AW.region ?_
          refine AO.op (O.loadK rfl rfl (by repeat (first | exact List.Mem.head _ | refine List.Mem.tail _ ?_)) (by rfl) (by rfl)) rfl rfl rfl ?_
          refine AO.op (O.build rfl rfl rfl (by rfl)) rfl rfl rfl ?_
          (refine AO.store (i := 2) rfl rfl rfl rfl rfl rfl (by (simp [AV.cells, AV.one, roB, roI, roO, show ∀ k z, (Value.int k z).oneCell' = true from fun _ _ => rfl, show ∀ k, (Value.bool k).oneCell' = true from fun _ => rfl, *]; done)) (by rfl) (by rfl) (by (dsimp only [List.set, List.append, List.cons_append, List.nil_append, AV.cells, splice, List.take, List.drop, Nat.reduceAdd]; done)) (by (dsimp only [List.set, List.append, List.cons_append, List.nil_append, AV.cells, splice, List.take, List.drop, Nat.reduceAdd]; done)) ?_)
          refine AO.op (O.assign rfl rfl) rfl rfl rfl ?_
          (refine AO.store (i := 1) rfl rfl rfl rfl rfl rfl (by rfl) (by rfl) (by rfl) (by (dsimp only [List.set, List.append, List.cons_append, List.nil_append, AV.cells, splice, List.take, List.drop, Nat.reduceAdd]; done)) (by (dsimp only [List.set, List.append, List.cons_append, List.nil_append, AV.cells, splice, List.take, List.drop, Nat.reduceAdd]; done)) ?_)
          refine AO.op (O.assign rfl rfl) rfl rfl rfl ?_
          refine AO.nil ?_
          refine AQ.thenN ?_
          refine AW.ret ?_
          refine AQ.thenR ?_
          refine AQ.blockR ?_
          refine AQ.thenR ?_
          refine AQ.loopR ?_
          refine AQ.blockR ?_
          refine AQ.thenR ?_
          refine FnQ.coe (AQ.ret4G rfl (by exact ResAt.cell rfl (by repeat (first | exact List.Mem.head _ | refine List.Mem.tail _ ?_)) (by (dsimp only [List.set, List.append, List.cons_append, List.nil_append, AV.cells, splice, List.take, List.drop, Nat.reduceAdd]; done)) (by rfl)) (by exact ResAt.tmp rfl) (by exact ResAt.cell rfl (by repeat (first | exact List.Mem.head _ | refine List.Mem.tail _ ?_)) (by (dsimp only [List.set, List.append, List.cons_append, List.nil_append, AV.cells, splice, List.take, List.drop, Nat.reduceAdd]; done)) (by rfl)) (by exact ResAt.tmp rfl) ⟨_, by repeat (first | exact List.Sublist.slnil | refine List.Sublist.cons_cons _ ?_ | refine List.Sublist.cons _ ?_), List.Perm.refl _⟩ ⟨rfl, rfl⟩) (Coe.tup (by (repeat (first | exact CoeL.nil | refine CoeL.cons Coe.rfl ?_ | refine CoeL.cons Coe.nil ?_ | refine CoeL.cons (Coe.agg ?_) ?_)); done)) (retEnd V6 hV6 e1 rfl (rowEq (by simp only [List.length_eraseIdx, if_pos hk]; omega) (wts_cut0 c.out (by omega) (by omega))))
        · skip
          have e1 : endR c p m = (⟨c.next, c.out.eraseIdx k, c.used, c.inn⟩, 3, Msg.none, 0) := by rw [endR, e0]; show (_, (if m.ty = 3 then (4 : Int) else 3), _, _) = _; rw [if_neg h45]
          refine AW.skip ?_
          refine AQ.thenN ?_
          refine AW.seq ?_
          refine AW.region ?_
          refine AO.op (O.loadK rfl rfl (by repeat (first | exact List.Mem.head _ | refine List.Mem.tail _ ?_)) (by rfl) (by rfl)) rfl rfl rfl ?_
          refine AO.op (O.build rfl rfl rfl (by rfl)) rfl rfl rfl ?_
          (refine AO.store (i := 2) rfl rfl rfl rfl rfl rfl (by (simp [AV.cells, AV.one, roB, roI, roO, show ∀ k z, (Value.int k z).oneCell' = true from fun _ _ => rfl, show ∀ k, (Value.bool k).oneCell' = true from fun _ => rfl, *]; done)) (by rfl) (by rfl) (by (dsimp only [List.set, List.append, List.cons_append, List.nil_append, AV.cells, splice, List.take, List.drop, Nat.reduceAdd]; done)) (by (dsimp only [List.set, List.append, List.cons_append, List.nil_append, AV.cells, splice, List.take, List.drop, Nat.reduceAdd]; done)) ?_)
          refine AO.op (O.assign rfl rfl) rfl rfl rfl ?_
          (refine AO.store (i := 1) rfl rfl rfl rfl rfl rfl (by rfl) (by rfl) (by rfl) (by (dsimp only [List.set, List.append, List.cons_append, List.nil_append, AV.cells, splice, List.take, List.drop, Nat.reduceAdd]; done)) (by (dsimp only [List.set, List.append, List.cons_append, List.nil_append, AV.cells, splice, List.take, List.drop, Nat.reduceAdd]; done)) ?_)
          refine AO.op (O.assign rfl rfl) rfl rfl rfl ?_
          refine AO.nil ?_
          refine AQ.thenN ?_
          refine AW.ret ?_
          refine AQ.blockR ?_
          refine AQ.thenR ?_
          refine AQ.loopR ?_
          refine AQ.blockR ?_
          refine AQ.thenR ?_
          refine FnQ.coe (AQ.ret4G rfl (by exact ResAt.cell rfl (by repeat (first | exact List.Mem.head _ | refine List.Mem.tail _ ?_)) (by (dsimp only [List.set, List.append, List.cons_append, List.nil_append, AV.cells, splice, List.take, List.drop, Nat.reduceAdd]; done)) (by rfl)) (by exact ResAt.tmp rfl) (by exact ResAt.cell rfl (by repeat (first | exact List.Mem.head _ | refine List.Mem.tail _ ?_)) (by (dsimp only [List.set, List.append, List.cons_append, List.nil_append, AV.cells, splice, List.take, List.drop, Nat.reduceAdd]; done)) (by rfl)) (by exact ResAt.tmp rfl) ⟨_, by repeat (first | exact List.Sublist.slnil | refine List.Sublist.cons_cons _ ?_ | refine List.Sublist.cons _ ?_), List.Perm.refl _⟩ ⟨rfl, rfl⟩) (Coe.tup (by (repeat (first | exact CoeL.nil | refine CoeL.cons Coe.rfl ?_ | refine CoeL.cons Coe.nil ?_ | refine CoeL.cons (Coe.agg ?_) ?_)); done)) (retEnd V6 hV6 e1 rfl (rowEq (by simp only [List.length_eraseIdx, if_pos hk]; omega) (wts_cut0 c.out (by omega) (by omega))))
      skip
  · skip
    obtain rfl : k = c.out.length := by omega
    have e1 : endR c p m = (c, 5, Msg.none, 0) := by rw [endR, fi_none _ Wt.none hn]
    refine AW.exit ?_
    refine AQ.thenX ?_
    refine AQ.loopX ?_
    refine AQ.blockX rfl ?_
    refine AQ.thenN ?_
    refine AW.seq ?_
    refine AW.region ?_
    refine AO.op (O.loadK rfl rfl (by repeat (first | exact List.Mem.head _ | refine List.Mem.tail _ ?_)) (by rfl) (by rfl)) rfl rfl rfl ?_
    refine AO.op (O.build rfl rfl rfl (by rfl)) rfl rfl rfl ?_
    (refine AO.store (i := 1) rfl rfl rfl rfl rfl rfl (by (simp [AV.cells, AV.one, roB, roI, roO, show ∀ k z, (Value.int k z).oneCell' = true from fun _ _ => rfl, show ∀ k, (Value.bool k).oneCell' = true from fun _ => rfl, *]; done)) (by rfl) (by rfl) (by (dsimp only [List.set, List.append, List.cons_append, List.nil_append, AV.cells, splice, List.take, List.drop, Nat.reduceAdd]; done)) (by (dsimp only [List.set, List.append, List.cons_append, List.nil_append, AV.cells, splice, List.take, List.drop, Nat.reduceAdd]; done)) ?_)
    refine AO.op (O.assign rfl rfl) rfl rfl rfl ?_
    (refine AO.store (i := 0) rfl rfl rfl rfl rfl rfl (by rfl) (by rfl) (by rfl) (by (dsimp only [List.set, List.append, List.cons_append, List.nil_append, AV.cells, splice, List.take, List.drop, Nat.reduceAdd]; done)) (by (dsimp only [List.set, List.append, List.cons_append, List.nil_append, AV.cells, splice, List.take, List.drop, Nat.reduceAdd]; done)) ?_)
    refine AO.op (O.assign rfl rfl) rfl rfl rfl ?_
    refine AO.nil ?_
    refine AQ.thenN ?_
    refine AW.ret ?_
    refine FnQ.coe (AQ.ret4G rfl (by exact ResAt.cell rfl (by repeat (first | exact List.Mem.head _ | refine List.Mem.tail _ ?_)) (by (dsimp only [List.set, List.append, List.cons_append, List.nil_append, AV.cells, splice, List.take, List.drop, Nat.reduceAdd]; done)) (by rfl)) (by exact ResAt.tmp rfl) (by exact ResAt.cell rfl (by repeat (exact List.Mem.head _)) (by (dsimp only [List.set, List.append, List.cons_append, List.nil_append, AV.cells, splice, List.take, List.drop, Nat.reduceAdd]; done)) (by rfl)) (by exact ResAt.tmp rfl) ⟨_, by repeat (first | exact List.Sublist.slnil | refine List.Sublist.cons_cons _ ?_ | refine List.Sublist.cons _ ?_), List.Perm.refl _⟩ ⟨rfl, rfl⟩) (Coe.tup (by (repeat (first | exact CoeL.nil | refine CoeL.cons Coe.rfl ?_ | refine CoeL.cons Coe.nil ?_ | refine CoeL.cons (Coe.agg ?_) ?_)); done)) (retEnd V1 h1 e1 rfl rfl)
end Go.Proofs.Ytdnmilmcdbgppaa.By

namespace Go.Proofs.Ytdnmilmcdbgppaa.By
open Go.RowKit L A
set_option linter.unusedVariables false
set_option maxRecDepth 20000
set_option linter.unusedSimpArgs false
attribute [local irreducible] AW AQ AO
abbrev RecvOk (e : Ep) (p : Int) (m : Msg) (now : Int) : Prop := ValE e ∧ TimeOk now ∧ PeerOk p ∧ ValM m
def gotR (c : Ep) (p : Int) (m : Msg) (now : Int) : Ep × Int × Msg × Int := match c.inn.findIdx? (hB p m.id) with
  | some i => (c, 2, (hd c.inn i).m, 0)
  | none => if 16 ≤ c.inn.length then (c, 6, Msg.none, 0) else (⟨c.next, c.out, c.used, c.inn ++ [⟨p, m.id, now + 128, false, Msg.none⟩]⟩, 1, Msg.none, 0)
def recvR (e : Ep) (p : Int) (m : Msg) (now : Int) : Ep × Int × Msg × Int :=
  if RecvOk e p m now then
    if m.ty = 2 ∨ m.ty = 3 then endR (cleanE e now) p m
    else if m.code = 0 then (cleanE e now, 5, if m.ty = 0 then ⟨3, 0, m.id, [], [], []⟩ else Msg.none, 0)
    else gotR (cleanE e now) p m now
  else (Ep.none, 0, Msg.none, 1)
theorem endR_shape (c : Ep) (p : Int) (m : Msg) : endR c p m = (⟨c.next, (endR c p m).1.out, c.used, c.inn⟩, (endR c p m).2.1, Msg.none, 0) := by
  unfold endR
  cases c.out.findIdx? (wB p m.id) <;> rfl
abbrev resV (r : Ep × Int × Msg × Int) : AV := .tup [aggE r.1, .val (.int .i64 r.2.1), aggM r.2.2.1, .val (.int .i64 r.2.2.2)]
theorem ret4V {q : AV} {r : Ep × Int × Msg × Int} {a : Ep} {b : Int} {c : Msg} {d : Int} (h : r = (a, b, c, d)) (hq : q = .tup [aggE a, .val (.int .i64 b), aggM c, .val (.int .i64 d)]) : Is (resV r) q [] := by subst h; exact ⟨hq, rfl⟩
set_option maxHeartbeats 4000000 in
theorem recv_fn (e : Ep) (p : Int) (m : Msg) (now : Int) (hb : BdE e) : Sp Try.prog 26 [aggE e, .val (.int .i64 p), aggM m, .val (.int .i64 now)] [] (Is (resV (recvR e p m now))) := by
  refine Sp.enter Try.func26 rfl _ Try.ntmps26 rfl (fun w0 R0 => ?_)
  refine AW.seq ?_
  refine AW.region ?_
  refine AO.opB (O.box rfl rfl rfl rfl rfl) rfl rfl rfl ?_
  intro B1
  refine AO.opB (O.box rfl rfl rfl rfl rfl) rfl rfl rfl ?_
  intro B2
  refine AO.opB (O.alloc rfl (by (dsimp only [zerosA, List.replicate, List.append, List.flatten, AV.cells, Value.cells, List.toList_toArray, List.map]; done)) (by rfl)) rfl rfl rfl ?_
  intro B3
  refine AO.op (O.assign rfl rfl) rfl rfl rfl ?_
  refine AO.opB (O.alloc rfl (by (dsimp only [zerosA, List.replicate, List.append, List.flatten, AV.cells, Value.cells, List.toList_toArray, List.map]; done)) (by rfl)) rfl rfl rfl ?_
  intro B4
  refine AO.op (O.assign rfl rfl) rfl rfl rfl ?_
  refine AO.nil ?_
  refine AQ.thenN ?_
  refine AW.seq ?_
  refine AW.seq ?_
  refine AW.region ?_
  (refine AO.op (O.loadK rfl rfl (by repeat (first | exact List.Mem.head _ | refine List.Mem.tail _ ?_)) (by (dsimp only [List.set, List.append, List.cons_append, List.nil_append, AV.cells, splice, List.take, List.drop, Nat.reduceAdd]; done)) (by rfl)) rfl rfl rfl ?_)
  refine AO.op (O.call rfl Try.func15 rfl rfl rfl (evalid_fn e hb)) rfl rfl rfl ?_
  refine AO.op (O.not rfl rfl (by rfl)) rfl rfl rfl ?_
  refine AO.op (O.move rfl rfl) rfl rfl rfl ?_
  refine AO.opG rfl rfl rfl (fun hp => O.move rfl rfl) ?_
  refine AO.opG rfl rfl rfl (fun hp => OpW.force 19 rfl (by exact hp) (O.call rfl Try.func43 rfl rfl rfl (timeOK_fn _))) ?_
  refine AO.opG rfl rfl rfl (fun hp => OpW.force 20 rfl (by exact hp) (O.not rfl rfl (by rfl))) ?_
  refine AO.op (O.pickOr rfl rfl rfl rfl (fun h => by exact congrArg (fun b => !b) h)) rfl rfl rfl ?_
  refine AO.op (O.move rfl rfl) rfl rfl rfl ?_
  refine AO.opG rfl rfl rfl (fun hp => O.move rfl rfl) ?_
  refine AO.opG rfl rfl rfl (fun hp => OpW.force 24 rfl (by exact hp) (O.call rfl Try.func37 rfl rfl rfl (peerOK_fn _))) ?_
  refine AO.opG rfl rfl rfl (fun hp => OpW.force 25 rfl (by exact hp) (O.not rfl rfl (by rfl))) ?_
  refine AO.op (O.pickOr rfl rfl rfl rfl (fun h => by exact congrArg (fun b => !b) h)) rfl rfl rfl ?_
  refine AO.op (O.move rfl rfl) rfl rfl rfl ?_
  (refine AO.opG rfl rfl rfl (fun hp => O.loadK rfl rfl (by repeat (first | exact List.Mem.head _ | refine List.Mem.tail _ ?_)) (by (dsimp only [List.set, List.append, List.cons_append, List.nil_append, AV.cells, splice, List.take, List.drop, Nat.reduceAdd]; done)) (by rfl)) ?_)
  refine AO.opG rfl rfl rfl (fun hp => OpW.force 29 rfl (by exact hp) (O.call rfl Try.func44 rfl rfl rfl (valid_fn m))) ?_
  refine AO.opG rfl rfl rfl (fun hp => OpW.force 30 rfl (by exact hp) (O.not rfl rfl (by rfl))) ?_
  refine AO.op (O.pickOr rfl rfl rfl rfl (fun h => by exact congrArg (fun b => !b) h)) rfl rfl rfl ?_
  refine AO.nil ?_
  refine AQ.thenN ?_
  refine AW.split rfl (fun h => ?_) (fun h => ?_) <;> (try simp only [decide_eq_true_eq, decide_eq_false_iff_not, beq_iff_eq, beq_eq_false_iff_ne, bne_iff_ne, bne_eq_false_iff_eq, Bool.not_eq_true', Bool.not_eq_false', Bool.not_eq_true, Bool.not_eq_false, ne_eq, Int.not_lt, Int.not_le, Bool.and_eq_true, Bool.or_eq_true, Bool.or_eq_false_iff, Bool.and_eq_false_imp, strOf_toList, Decidable.not_not] at h)
  · skip
    have e1 : recvR e p m now = (Ep.none, 0, Msg.none, 1) := if_neg (by
      rintro ⟨h1, h2, h3, h4⟩
      rcases h with ((h | h) | h) | h
      · exact h h1
      · exact h h2
      · exact h h3
      · exact h h4)
    refine AW.seq ?_
    refine AW.region ?_
    refine AO.op (O.build rfl rfl rfl (by rfl)) rfl rfl rfl ?_
    refine AO.op (O.build rfl rfl rfl (by rfl)) rfl rfl rfl ?_
    (refine AO.store (i := 1) rfl rfl rfl rfl rfl rfl (by rfl) (by rfl) (by rfl) (by (dsimp only [List.set, List.append, List.cons_append, List.nil_append, AV.cells, splice, List.take, List.drop, Nat.reduceAdd]; done)) (by (dsimp only [List.set, List.append, List.cons_append, List.nil_append, AV.cells, splice, List.take, List.drop, Nat.reduceAdd]; done)) ?_)
    refine AO.op (O.assign rfl rfl) rfl rfl rfl ?_
    (refine AO.store (i := 0) rfl rfl rfl rfl rfl rfl (by rfl) (by rfl) (by rfl) (by (dsimp only [List.set, List.append, List.cons_append, List.nil_append, AV.cells, splice, List.take, List.drop, Nat.reduceAdd]; done)) (by (dsimp only [List.set, List.append, List.cons_append, List.nil_append, AV.cells, splice, List.take, List.drop, Nat.reduceAdd]; done)) ?_)
    refine AO.op (O.assign rfl rfl) rfl rfl rfl ?_
    refine AO.nil ?_
    refine AQ.thenN ?_
    refine AW.ret ?_
    refine AQ.thenR ?_
    refine FnQ.coe (AQ.ret4G rfl (by exact ResAt.cell rfl (by repeat (first | exact List.Mem.head _ | refine List.Mem.tail _ ?_)) (by (dsimp only [List.set, List.append, List.cons_append, List.nil_append, AV.cells, splice, List.take, List.drop, Nat.reduceAdd]; done)) (by rfl)) (by exact ResAt.tmp rfl) (by exact ResAt.cell rfl (by repeat (exact List.Mem.head _)) (by (dsimp only [List.set, List.append, List.cons_append, List.nil_append, AV.cells, splice, List.take, List.drop, Nat.reduceAdd]; done)) (by rfl)) (by exact ResAt.tmp rfl) ⟨_, List.nil_sublist _, .nil⟩ ⟨rfl, rfl⟩) (Coe.tup (by (repeat (first | exact CoeL.nil | refine CoeL.cons Coe.rfl ?_ | refine CoeL.cons Coe.nil ?_ | refine CoeL.cons (Coe.agg ?_) ?_)); done)) (ret4V e1 rfl)
  · skip
    obtain ⟨⟨⟨hv, ht⟩, hp⟩, hvm⟩ := h
    have hok : RecvOk e p m now := ⟨hv, ht, hp, hvm⟩
    have hsm := ValE.sm hv
    have hv1 := hv.2.1
    have hv4 := hv.2.2.2.1
    have hci := clean_inn e now
    have h0 : recvR e p m now = _ := if_pos hok
    refine AW.skip ?_
    refine AQ.thenN ?_
    refine AW.seq ?_
    refine AW.region ?_
    (refine AO.op (O.loadK rfl rfl (by repeat (first | exact List.Mem.head _ | refine List.Mem.tail _ ?_)) (by (dsimp only [List.set, List.append, List.cons_append, List.nil_append, AV.cells, splice, List.take, List.drop, Nat.reduceAdd]; done)) (by rfl)) rfl rfl rfl ?_)
    refine AO.op (O.move rfl rfl) rfl rfl rfl ?_
    refine AO.opN (O.call rfl Try.func45 rfl rfl rfl (cleaned_fn e now hsm)) rfl rfl rfl ?_
    rintro _ _ ⟨V15, V25, V35, hV15, hV25, hV35, rfl, rfl⟩
    simp only [List.cons_append, List.nil_append]
    (refine AO.store (i := 6) rfl rfl rfl rfl rfl rfl (by (simp [AV.cells, AV.one, roB, roI, roO, show ∀ k z, (Value.int k z).oneCell' = true from fun _ _ => rfl, show ∀ k, (Value.bool k).oneCell' = true from fun _ => rfl, *]; done)) (by rfl) (by rfl) (by (dsimp only [List.set, List.append, List.cons_append, List.nil_append, AV.cells, splice, List.take, List.drop, Nat.reduceAdd]; done)) (by (dsimp only [List.set, List.append, List.cons_append, List.nil_append, AV.cells, splice, List.take, List.drop, Nat.reduceAdd]; done)) ?_)
    refine AO.nil ?_
    refine AQ.thenN ?_
    refine AW.seq ?_
    refine AW.seq ?_
    refine AW.region ?_
    refine AO.op (O.fieldAddr rfl rfl) rfl rfl rfl ?_
    refine AO.op (O.load rfl rfl (by repeat (first | exact List.Mem.head _ | refine List.Mem.tail _ ?_)) (by rfl)) rfl rfl rfl ?_
    refine AO.op (O.eql rfl rfl rfl (by rfl)) rfl rfl rfl ?_
    refine AO.op (O.move rfl rfl) rfl rfl rfl ?_
    refine AO.opG rfl rfl rfl (fun hp => O.fieldAddr rfl rfl) ?_
    refine AO.opG rfl rfl rfl (fun hp => OpW.force 42 rfl (by exact hp) (O.load rfl rfl (by repeat (first | exact List.Mem.head _ | refine List.Mem.tail _ ?_)) (by rfl))) ?_
    refine AO.opG rfl rfl rfl (fun hp => OpW.force 43 rfl (by exact hp) (O.eql rfl rfl rfl (by rfl))) ?_
    refine AO.op (O.pickOr rfl rfl rfl rfl (fun h => by exact congrArg (fun b => !b) h)) rfl rfl rfl ?_
    refine AO.nil ?_
    refine AQ.thenN ?_
    refine AW.split rfl (fun h2 => ?_) (fun h2 => ?_) <;> (try simp only [decide_eq_true_eq, decide_eq_false_iff_not, beq_iff_eq, beq_eq_false_iff_ne, bne_iff_ne, bne_eq_false_iff_eq, Bool.not_eq_true', Bool.not_eq_false', Bool.not_eq_true, Bool.not_eq_false, ne_eq, Int.not_lt, Int.not_le, Bool.and_eq_true, Bool.or_eq_true, Bool.or_eq_false_iff, Bool.and_eq_false_imp, strOf_toList, Decidable.not_not] at h2)
    · skip
      have e1 : recvR e p m now = _ := (h0.trans (if_pos h2)).trans (endR_shape _ _ _)
      refine AW.seq ?_
      refine AW.region ?_
      (refine AO.op (O.loadK rfl rfl (by repeat (first | exact List.Mem.head _ | refine List.Mem.tail _ ?_)) (by (dsimp only [List.set, List.append, List.cons_append, List.nil_append, AV.cells, splice, List.take, List.drop, Nat.reduceAdd]; done)) (by rfl)) rfl rfl rfl ?_)
      refine AO.op (O.move rfl rfl) rfl rfl rfl ?_
      (refine AO.op (O.loadK rfl rfl (by repeat (first | exact List.Mem.head _ | refine List.Mem.tail _ ?_)) (by (dsimp only [List.set, List.append, List.cons_append, List.nil_append, AV.cells, splice, List.take, List.drop, Nat.reduceAdd]; done)) (by rfl)) rfl rfl rfl ?_)
      (refine AO.callMG 2 rfl rfl Try.func53 rfl rfl rfl rfl rfl rfl (ended_fn (cleanE e now) p m V15 V25 V35 hV15 hV25 hV35 (by rw [cleanE_out]; omega)) ?_)
      rintro _ _ ⟨V6, hV6, rfl, rfl⟩
      dsimp only [List.cons_append, List.nil_append, List.eraseIdx]
      refine AO.op (O.extract rfl rfl rfl) rfl rfl rfl ?_
      refine AO.op (O.extract rfl rfl rfl) rfl rfl rfl ?_
      refine AO.op (O.extract rfl rfl rfl) rfl rfl rfl ?_
      refine AO.op (O.extract rfl rfl rfl) rfl rfl rfl ?_
      (refine AO.store (i := 4) rfl rfl rfl rfl rfl rfl (by (simp [AV.cells, AV.one, roB, roI, roO, show ∀ k z, (Value.int k z).oneCell' = true from fun _ _ => rfl, show ∀ k, (Value.bool k).oneCell' = true from fun _ => rfl, *]; done)) (by rfl) (by rfl) (by (dsimp only [List.set, List.append, List.cons_append, List.nil_append, AV.cells, splice, List.take, List.drop, Nat.reduceAdd]; done)) (by (dsimp only [List.set, List.append, List.cons_append, List.nil_append, AV.cells, splice, List.take, List.drop, Nat.reduceAdd]; done)) ?_)
      refine AO.op (O.assign rfl rfl) rfl rfl rfl ?_
      (refine AO.store (i := 3) rfl rfl rfl rfl rfl rfl (by rfl) (by rfl) (by rfl) (by (dsimp only [List.set, List.append, List.cons_append, List.nil_append, AV.cells, splice, List.take, List.drop, Nat.reduceAdd]; done)) (by (dsimp only [List.set, List.append, List.cons_append, List.nil_append, AV.cells, splice, List.take, List.drop, Nat.reduceAdd]; done)) ?_)
      refine AO.op (O.assign rfl rfl) rfl rfl rfl ?_
      refine AO.nil ?_
      refine AQ.thenN ?_
      refine AW.ret ?_
      refine AQ.thenR ?_
      refine AQ.g ?_
      refine G.freezeCell 0 3 1 rfl rfl rfl ?_
      refine AQ.u ?_
      dsimp only [List.eraseIdx, List.set]
      refine AQ.g ?_
      refine G.freezeCell 0 2 3 rfl rfl rfl ?_
      refine AQ.u ?_
      dsimp only [List.eraseIdx, List.set]
      refine AQ.g ?_
      refine G.freezeCell 0 1 2 rfl rfl rfl ?_
      refine AQ.u ?_
      dsimp only [List.eraseIdx, List.set]
      refine FnQ.coe (AQ.ret4G rfl (by exact ResAt.cell rfl (by repeat (first | exact List.Mem.head _ | refine List.Mem.tail _ ?_)) (by (dsimp only [List.set, List.append, List.cons_append, List.nil_append, AV.cells, splice, List.take, List.drop, Nat.reduceAdd]; done)) (by rfl)) (by exact ResAt.tmp rfl) (by exact ResAt.cell rfl (by repeat (exact List.Mem.head _)) (by (dsimp only [List.set, List.append, List.cons_append, List.nil_append, AV.cells, splice, List.take, List.drop, Nat.reduceAdd]; done)) (by rfl)) (by exact ResAt.tmp rfl) ⟨_, List.nil_sublist _, .nil⟩ ⟨rfl, rfl⟩) (Coe.tup (by (repeat (first | exact CoeL.nil | refine CoeL.cons Coe.rfl ?_)); done)) (ret4V e1 rfl)
    · skip
      have e2 : recvR e p m now = _ := h0.trans (if_neg (fun g => g.elim h2.1 h2.2))
      refine AW.skip ?_
      refine AQ.thenN ?_
      refine AW.seq ?_
      refine AW.seq ?_
      refine AW.region ?_
      refine AO.op (O.fieldAddr rfl rfl) rfl rfl rfl ?_
      refine AO.op (O.load rfl rfl (by repeat (first | exact List.Mem.head _ | refine List.Mem.tail _ ?_)) (by rfl)) rfl rfl rfl ?_
      refine AO.op (O.eql rfl rfl rfl (by rfl)) rfl rfl rfl ?_
      refine AO.nil ?_
      refine AQ.thenN ?_
      refine AW.split rfl (fun h3 => ?_) (fun h3 => ?_) <;> (try simp only [decide_eq_true_eq, decide_eq_false_iff_not, beq_iff_eq, beq_eq_false_iff_ne, bne_iff_ne, bne_eq_false_iff_eq, Bool.not_eq_true', Bool.not_eq_false', Bool.not_eq_true, Bool.not_eq_false, ne_eq, Int.not_lt, Int.not_le, Bool.and_eq_true, Bool.or_eq_true, Bool.or_eq_false_iff, Bool.and_eq_false_imp, strOf_toList, Decidable.not_not] at h3)
      · skip
        have e3 : recvR e p m now = _ := e2.trans (if_pos h3)
        refine AW.seq ?_
        refine AW.region ?_
        refine AO.opB (O.alloc rfl (by (dsimp only [zerosA, List.replicate, List.append, List.flatten, AV.cells, Value.cells, List.toList_toArray, List.map]; done)) (by rfl)) rfl rfl rfl ?_
        intro B7
        refine AO.nil ?_
        refine AQ.thenN ?_
        refine AW.seq ?_
        refine AW.seq ?_
        refine AW.region ?_
        refine AO.op (O.fieldAddr rfl rfl) rfl rfl rfl ?_
        refine AO.op (O.load rfl rfl (by repeat (first | exact List.Mem.head _ | refine List.Mem.tail _ ?_)) (by rfl)) rfl rfl rfl ?_
        refine AO.op (O.eql rfl rfl rfl (by rfl)) rfl rfl rfl ?_
        refine AO.nil ?_
        refine AQ.thenN ?_
        refine AW.split rfl (fun h59 => ?_) (fun h59 => ?_) <;> (try simp only [decide_eq_true_eq, decide_eq_false_iff_not, beq_iff_eq, beq_eq_false_iff_ne, bne_iff_ne, bne_eq_false_iff_eq, Bool.not_eq_true', Bool.not_eq_false', Bool.not_eq_true, Bool.not_eq_false, ne_eq, Int.not_lt, Int.not_le, Bool.and_eq_true, Bool.or_eq_true, Bool.or_eq_false_iff, Bool.and_eq_false_imp, strOf_toList, Decidable.not_not] at h59)
        · skip
          rw [if_pos h59] at e3
          refine AW.region ?_
          refine AO.op (O.fieldAddr rfl rfl) rfl rfl rfl ?_
          refine AO.op (O.load rfl rfl (by repeat (first | exact List.Mem.head _ | refine List.Mem.tail _ ?_)) (by rfl)) rfl rfl rfl ?_
          refine AO.op (O.build rfl rfl rfl (by rfl)) rfl rfl rfl ?_
          (refine AO.store (i := 0) rfl rfl rfl rfl rfl rfl (by rfl) (by rfl) (by rfl) (by (dsimp only [List.set, List.append, List.cons_append, List.nil_append, AV.cells, splice, List.take, List.drop, Nat.reduceAdd]; done)) (by (dsimp only [List.set, List.append, List.cons_append, List.nil_append, AV.cells, splice, List.take, List.drop, Nat.reduceAdd]; done)) ?_)
          refine AO.nil ?_
          refine AQ.thenN ?_
          refine AW.seq ?_
          refine AW.regionM [(0, false), (1, false), (2, true), (3, false), (4, true), (5, false)] (by kernel_rfl) (by kernel_rfl) (by exact (by exact splitBlk 8 5 rfl rfl (by exact splitBlk 10 4 rfl rfl splitNil))) ?_
          dsimp only [List.eraseIdx]
          (refine AM.op rfl (O.loadK rfl rfl (by repeat (first | exact List.Mem.head _ | refine List.Mem.tail _ ?_)) (by (dsimp only [List.set, List.append, List.cons_append, List.nil_append, AV.cells, splice, List.take, List.drop, Nat.reduceAdd]; done)) (by rfl)) rfl rfl rfl ?_)
          (refine AM.op rfl (O.loadK rfl rfl (by repeat (exact List.Mem.head _)) (by (dsimp only [List.set, List.append, List.cons_append, List.nil_append, AV.cells, splice, List.take, List.drop, Nat.reduceAdd]; done)) (by rfl)) rfl rfl rfl ?_)
          refine AM.main _ rfl (fun w0 R0 => ?_)
          (refine AO.store (i := 0) rfl rfl rfl rfl rfl rfl (by (simp [AV.cells, AV.one, roB, roI, roO, show ∀ k z, (Value.int k z).oneCell' = true from fun _ _ => rfl, show ∀ k, (Value.bool k).oneCell' = true from fun _ => rfl, *]; done)) (by rfl) (by rfl) (by (dsimp only [List.set, List.append, List.cons_append, List.nil_append, AV.cells, splice, List.take, List.drop, Nat.reduceAdd]; done)) (by (dsimp only [List.set, List.append, List.cons_append, List.nil_append, AV.cells, splice, List.take, List.drop, Nat.reduceAdd]; done)) ?_)
          refine AM.okN ?_
          dsimp only [putE]
          refine AM.op rfl (O.assign rfl rfl) rfl rfl rfl ?_
          refine AM.main _ rfl (fun w0 R0 => ?_)
          (refine AO.store (i := 1) rfl rfl rfl rfl rfl rfl (by rfl) (by rfl) (by rfl) (by (dsimp only [List.set, List.append, List.cons_append, List.nil_append, AV.cells, splice, List.take, List.drop, Nat.reduceAdd]; done)) (by (dsimp only [List.set, List.append, List.cons_append, List.nil_append, AV.cells, splice, List.take, List.drop, Nat.reduceAdd]; done)) ?_)
          refine AM.okN ?_
          dsimp only [putE]
          refine AM.op rfl (O.assign rfl rfl) rfl rfl rfl ?_
          refine AM.nil ?_
          dsimp only [List.cons_append, List.nil_append]
          refine AQ.thenN ?_
          refine AW.ret ?_
          refine AQ.thenR ?_
          refine AQ.g ?_
          refine G.freezeCell 3 0 3 rfl rfl rfl ?_
          refine AQ.u ?_
          dsimp only [List.eraseIdx, List.set]
          refine AQ.g ?_
          refine G.freezeCell 3 0 2 rfl rfl rfl ?_
          refine AQ.u ?_
          dsimp only [List.eraseIdx, List.set]
          refine AQ.g ?_
          refine G.freezeCell 3 0 1 rfl rfl rfl ?_
          refine AQ.u ?_
          dsimp only [List.eraseIdx, List.set]
          refine FnQ.coe (AQ.ret4G rfl (by exact ResAt.cell rfl (by repeat (exact List.Mem.head _)) (by (dsimp only [List.set, List.append, List.cons_append, List.nil_append, AV.cells, splice, List.take, List.drop, Nat.reduceAdd]; done)) (by rfl)) (by exact ResAt.tmp rfl) (by exact ResAt.cell rfl (by repeat (first | exact List.Mem.head _ | refine List.Mem.tail _ ?_)) (by (dsimp only [List.set, List.append, List.cons_append, List.nil_append, AV.cells, splice, List.take, List.drop, Nat.reduceAdd]; done)) (by rfl)) (by exact ResAt.tmp rfl) ⟨_, List.nil_sublist _, .nil⟩ ⟨rfl, rfl⟩) (Coe.tup (by (repeat (first | exact CoeL.nil | refine CoeL.cons Coe.rfl ?_ | refine CoeL.cons Coe.nil ?_ | refine CoeL.cons (Coe.agg ?_) ?_)); done)) (ret4V e3 rfl)
        · skip
          rw [if_neg h59] at e3
          refine AW.skip ?_
          refine AQ.thenN ?_
          refine AW.seq ?_
          refine AW.regionM [(0, false), (1, false), (2, true), (3, false), (4, true), (5, false)] (by kernel_rfl) (by kernel_rfl) (by exact (by exact splitBlk 8 5 rfl rfl (by exact splitBlk 10 4 rfl rfl splitNil))) ?_
          dsimp only [List.eraseIdx]
          (refine AM.op rfl (O.loadK rfl rfl (by repeat (first | exact List.Mem.head _ | refine List.Mem.tail _ ?_)) (by (dsimp only [List.set, List.append, List.cons_append, List.nil_append, AV.cells, splice, List.take, List.drop, Nat.reduceAdd]; done)) (by rfl)) rfl rfl rfl ?_)
          (refine AM.op rfl (O.loadK rfl rfl (by repeat (exact List.Mem.head _)) (by (dsimp only [List.set, List.append, List.cons_append, List.nil_append, AV.cells, splice, List.take, List.drop, Nat.reduceAdd]; done)) (by rfl)) rfl rfl rfl ?_)
          refine AM.main _ rfl (fun w0 R0 => ?_)
          (refine AO.store (i := 0) rfl rfl rfl rfl rfl rfl (by (simp [AV.cells, AV.one, roB, roI, roO, show ∀ k z, (Value.int k z).oneCell' = true from fun _ _ => rfl, show ∀ k, (Value.bool k).oneCell' = true from fun _ => rfl, *]; done)) (by rfl) (by rfl) (by (dsimp only [List.set, List.append, List.cons_append, List.nil_append, AV.cells, splice, List.take, List.drop, Nat.reduceAdd]; done)) (by (dsimp only [List.set, List.append, List.cons_append, List.nil_append, AV.cells, splice, List.take, List.drop, Nat.reduceAdd]; done)) ?_)
          refine AM.okN ?_
          dsimp only [putE]
          refine AM.op rfl (O.assign rfl rfl) rfl rfl rfl ?_
          refine AM.main _ rfl (fun w0 R0 => ?_)
          (refine AO.store (i := 1) rfl rfl rfl rfl rfl rfl (by rfl) (by rfl) (by rfl) (by (dsimp only [List.set, List.append, List.cons_append, List.nil_append, AV.cells, splice, List.take, List.drop, Nat.reduceAdd]; done)) (by (dsimp only [List.set, List.append, List.cons_append, List.nil_append, AV.cells, splice, List.take, List.drop, Nat.reduceAdd]; done)) ?_)
          refine AM.okN ?_
          dsimp only [putE]
          refine AM.op rfl (O.assign rfl rfl) rfl rfl rfl ?_
          refine AM.nil ?_
          dsimp only [List.cons_append, List.nil_append]
          refine AQ.thenN ?_
          refine AW.ret ?_
          refine AQ.thenR ?_
          refine AQ.g ?_
          refine G.freezeCell 3 0 3 rfl rfl rfl ?_
          refine AQ.u ?_
          dsimp only [List.eraseIdx, List.set]
          refine AQ.g ?_
          refine G.freezeCell 3 0 2 rfl rfl rfl ?_
          refine AQ.u ?_
          dsimp only [List.eraseIdx, List.set]
          refine AQ.g ?_
          refine G.freezeCell 3 0 1 rfl rfl rfl ?_
          refine AQ.u ?_
          dsimp only [List.eraseIdx, List.set]
          refine FnQ.coe (AQ.ret4G rfl (by exact ResAt.cell rfl (by repeat (exact List.Mem.head _)) (by (dsimp only [List.set, List.append, List.cons_append, List.nil_append, AV.cells, splice, List.take, List.drop, Nat.reduceAdd]; done)) (by rfl)) (by exact ResAt.tmp rfl) (by exact ResAt.cell rfl (by repeat (first | exact List.Mem.head _ | refine List.Mem.tail _ ?_)) (by (dsimp only [List.set, List.append, List.cons_append, List.nil_append, AV.cells, splice, List.take, List.drop, Nat.reduceAdd]; done)) (by rfl)) (by exact ResAt.tmp rfl) ⟨_, List.nil_sublist _, .nil⟩ ⟨rfl, rfl⟩) (Coe.tup (by (repeat (first | exact CoeL.nil | refine CoeL.cons Coe.rfl ?_ | refine CoeL.cons Coe.nil ?_ | refine CoeL.cons (Coe.agg ?_) ?_)); done)) (ret4V e3 rfl)
      · skip
        have e3 : recvR e p m now = _ := e2.trans (if_neg h3)
        refine AW.skip ?_
        refine AQ.thenN ?_
        refine AW.seq ?_
        refine AW.seq ?_
        refine AW.region ?_
        refine AO.op (O.fieldAddr rfl rfl) rfl rfl rfl ?_
        refine AO.op (O.load rfl rfl (by repeat (first | exact List.Mem.head _ | refine List.Mem.tail _ ?_)) (by rfl)) rfl rfl rfl ?_
        refine AO.op (O.lenRow rfl rfl (by repeat (exact List.Mem.head _))) rfl rfl rfl ?_
        refine AO.op (O.move rfl rfl) rfl rfl rfl ?_
        refine AO.nil ?_
        refine AQ.thenN ?_
        refine AW.block ?_
        refine AW.loopK [(1, _), (3, _), (4, _), (6, _), (8, _), (10, _), (66, _), (67, _)] (fun nn E H => ∃ (k : Nat), (k ≤ (cleanE e now).inn.length) ∧ (∀ q, q < k → hB p m.id (hd (cleanE e now).inn q) = false) ∧ nn = (cleanE e now).inn.length - k ∧ E = [(68, .val (.int .i64 (k : Int)))] ∧ H = [.row V35 63 10 (cleanE e now).inn.length (hdsA (cleanE e now).inn), .row V25 60 3 (cleanE e now).used.length (ussA (cleanE e now).used), .row V15 71 9 (cleanE e now).out.length (wtsA (cleanE e now).out), .blk B4 31 6 [.val (.int .i64 0), .val (.int .i64 0), .val (.int .i64 0), .val nilS, .val nilS, .val nilS], .blk B3 26 4 [.val (.int .i64 0), .val nilS, .val nilS, .val nilS], .blk B2 31 6 [.val (.int .i64 m.ty), .val (.int .i64 m.code), .val (.int .i64 m.id), roB m.tok, roO m.opts, roB m.pay], .blk B1 26 4 [.val (.int .i64 (cleanE e now).next), .val V15, .val V25, .val V35]]) _ (⟨0, by omega, fun q hq => absurd hq (by omega), rfl, rfl, rfl⟩) (by repeat (first | exact envNil | refine envCons rfl ?_)) (by repeat (first | exact envNil | refine envCons rfl ?_)) (by repeat (first | exact subPnil | refine subPcons 0 rfl ?_)) ?_
        rintro nn E H ⟨k, hk1, hn, rfl, rfl, rfl⟩
        dsimp only [List.cons_append, List.nil_append]
        refine AW.seq ?_
        refine AW.region ?_
        refine AO.op (O.lss rfl rfl rfl (by rfl)) rfl rfl rfl ?_
        refine AO.nil ?_
        refine AQ.thenN ?_
        refine AW.seq ?_
        refine AW.split rfl (fun hlt => ?_) (fun hlt => ?_) <;> (try simp only [decide_eq_true_eq, decide_eq_false_iff_not, beq_iff_eq, beq_eq_false_iff_ne, bne_iff_ne, bne_eq_false_iff_eq, Bool.not_eq_true', Bool.not_eq_false', Bool.not_eq_true, Bool.not_eq_false, ne_eq, Int.not_lt, Int.not_le, Bool.and_eq_true, Bool.or_eq_true, Bool.or_eq_false_iff, Bool.and_eq_false_imp, strOf_toList, Decidable.not_not] at hlt)
        · skip
          have hk : k < (cleanE e now).inn.length := by omega
          have hgw : ((hdsA (cleanE e now).inn).drop (0 + Int.toNat (k : Int) * 10)).take 10 = cH (hd (cleanE e now).inn k) := by rw [Nat.zero_add]; exact getH hk (by omega)
          have hmm : SmM (hd (cleanE e now).inn k).m := hsm.im _ (List.mem_filter.1 (getD_mem Hd.none hk)).1
          refine AW.g ?_
          refine G.openRow 0 rfl (by omega) (fun b cap hc1 hc2 hxs hVe => ?_)
          refine AW.u ?_
          subst hVe
          dsimp only [List.set]
          refine AW.skip ?_
          refine AQ.thenN ?_
          refine AW.seq ?_
          refine AW.block ?_
          refine AW.seq ?_
          refine AW.region ?_
          refine AO.op (O.idxV rfl rfl rfl ⟨(by omega), (by omega)⟩) rfl rfl rfl ?_
          refine AO.op (O.loadK rfl rfl (by repeat (exact List.Mem.head _)) (by exact hgw) (by rfl)) rfl rfl rfl ?_
          refine AO.opB (O.alloc rfl (by (dsimp only [zerosA, List.replicate, List.append, List.flatten, AV.cells, Value.cells, List.toList_toArray, List.map]; done)) (by rfl)) rfl rfl rfl ?_
          intro B8
          (refine AO.store (i := 0) rfl rfl rfl rfl rfl rfl (by rfl) (by rfl) (by rfl) (by (dsimp only [List.set, List.append, List.cons_append, List.nil_append, AV.cells, splice, List.take, List.drop, Nat.reduceAdd]; done)) (by (dsimp only [List.set, List.append, List.cons_append, List.nil_append, AV.cells, splice, List.take, List.drop, Nat.reduceAdd]; done)) ?_)
          refine AO.nil ?_
          refine AQ.thenN ?_
          refine AW.seq ?_
          refine AW.region ?_
          refine AO.op (O.fieldAddr rfl rfl) rfl rfl rfl ?_
          refine AO.op (O.load rfl rfl (by repeat (exact List.Mem.head _)) (by rfl)) rfl rfl rfl ?_
          refine AO.op (O.move rfl rfl) rfl rfl rfl ?_
          refine AO.op (O.eql rfl rfl rfl (by rfl)) rfl rfl rfl ?_
          refine AO.op (O.move rfl rfl) rfl rfl rfl ?_
          refine AO.opG rfl rfl rfl (fun hp => O.fieldAddr rfl rfl) ?_
          refine AO.opG rfl rfl rfl (fun hp => OpW.force 77 rfl (by exact hp) (O.load rfl rfl (by repeat (exact List.Mem.head _)) (by rfl))) ?_
          refine AO.opG rfl rfl rfl (fun hp => O.fieldAddr rfl rfl) ?_
          refine AO.opG rfl rfl rfl (fun hp => OpW.force 79 rfl (by exact hp) (O.load rfl rfl (by repeat (first | exact List.Mem.head _ | refine List.Mem.tail _ ?_)) (by rfl))) ?_
          refine AO.opG rfl rfl rfl (fun hp => OpW.force 78 rfl (by exact hp) (OpW.force 80 rfl (by exact hp) (O.eql rfl rfl rfl (by rfl)))) ?_
          refine AO.op (O.pickAnd rfl rfl rfl rfl (fun h => by exact h)) rfl rfl rfl ?_
          refine AO.nil ?_
          refine AQ.thenN ?_
          refine AW.split rfl (fun h82 => ?_) (fun h82 => ?_) <;> (try simp only [decide_eq_true_eq, decide_eq_false_iff_not, beq_iff_eq, beq_eq_false_iff_ne, bne_iff_ne, bne_eq_false_iff_eq, Bool.not_eq_true', Bool.not_eq_false', Bool.not_eq_true, Bool.not_eq_false, ne_eq, Int.not_lt, Int.not_le, Bool.and_eq_true, Bool.or_eq_true, Bool.or_eq_false_iff, Bool.and_eq_false_imp, strOf_toList, Decidable.not_not] at h82)
          · skip
            have e0 := fi_some (hB p m.id) Hd.none hk (by rw [hB, Bool.and_eq_true, beq_iff_eq, beq_iff_eq]; exact h82) hn
            have e4 : recvR e p m now = (cleanE e now, 2, (hd (cleanE e now).inn k).m, 0) := e3.trans (by rw [gotR, e0])
            refine AW.seq ?_
            refine AW.regionD 4 (by kernel_rfl) (by kernel_rfl) ?_
            simp only [List.take_succ_cons, List.take_zero, List.drop_succ_cons, List.drop_zero]
            refine FA.op (O.loadK rfl rfl (by repeat (first | exact List.Mem.head _ | refine List.Mem.tail _ ?_)) (by rfl) (by rfl)) rfl rfl rfl rfl ?_
            refine FA.op (O.fieldAddr rfl rfl) rfl rfl rfl rfl ?_
            refine FA.op (O.loadK rfl rfl (by repeat (exact List.Mem.head _)) (by rfl) (by rfl)) rfl rfl rfl rfl ?_
            refine FA.op (O.call rfl Try.func47 rfl rfl rfl (message_fn (hd (cleanE e now).inn k).m hmm)) rfl rfl rfl rfl ?_
            refine FA.nil ?_
            simp only [chosen, List.nil_append, List.cons_append, List.append_nil]
            (refine AO.store (i := 5) rfl rfl rfl rfl rfl rfl (by (simp [AV.cells, AV.one, roB, roI, roO, show ∀ k z, (Value.int k z).oneCell' = true from fun _ _ => rfl, show ∀ k, (Value.bool k).oneCell' = true from fun _ => rfl, *]; done)) (by rfl) (by rfl) (by (dsimp only [List.set, List.append, List.cons_append, List.nil_append, AV.cells, splice, List.take, List.drop, Nat.reduceAdd]; done)) (by (dsimp only [List.set, List.append, List.cons_append, List.nil_append, AV.cells, splice, List.take, List.drop, Nat.reduceAdd]; done)) ?_)
            refine AO.op (O.assign rfl rfl) rfl rfl rfl ?_
            (refine AO.store (i := 4) rfl rfl rfl rfl rfl rfl (by rfl) (by rfl) (by rfl) (by (dsimp only [List.set, List.append, List.cons_append, List.nil_append, AV.cells, splice, List.take, List.drop, Nat.reduceAdd]; done)) (by (dsimp only [List.set, List.append, List.cons_append, List.nil_append, AV.cells, splice, List.take, List.drop, Nat.reduceAdd]; done)) ?_)
            refine AO.op (O.assign rfl rfl) rfl rfl rfl ?_
            refine AO.nil ?_
            refine AQ.thenN ?_
            refine AW.ret ?_
            refine AQ.blockR ?_
            refine AQ.thenR ?_
            refine AQ.loopR ?_
            refine AQ.blockR ?_
            refine AQ.thenR ?_
            refine AQ.g ?_
            refine G.closeRow (b := b) (sz := 10) (n := (cleanE e now).inn.length) (cap := cap) 1 rfl hxs rfl hc1 hc2 ?_
            refine AQ.u ?_
            dsimp only [List.set]
            refine AQ.g ?_
            refine G.freezeCell 1 4 3 rfl rfl rfl ?_
            refine AQ.u ?_
            dsimp only [List.eraseIdx, List.set]
            refine AQ.g ?_
            refine G.freezeCell 1 3 2 rfl rfl rfl ?_
            refine AQ.u ?_
            dsimp only [List.eraseIdx, List.set]
            refine AQ.g ?_
            refine G.freezeCell 1 2 1 rfl rfl rfl ?_
            refine AQ.u ?_
            dsimp only [List.eraseIdx, List.set]
            refine FnQ.coe (AQ.ret4G rfl (by exact ResAt.cell rfl (by repeat (first | exact List.Mem.head _ | refine List.Mem.tail _ ?_)) (by (dsimp only [List.set, List.append, List.cons_append, List.nil_append, AV.cells, splice, List.take, List.drop, Nat.reduceAdd]; done)) (by rfl)) (by exact ResAt.tmp rfl) (by exact ResAt.cell rfl (by repeat (first | exact List.Mem.head _ | refine List.Mem.tail _ ?_)) (by (dsimp only [List.set, List.append, List.cons_append, List.nil_append, AV.cells, splice, List.take, List.drop, Nat.reduceAdd]; done)) (by rfl)) (by exact ResAt.tmp rfl) ⟨_, List.nil_sublist _, .nil⟩ ⟨rfl, rfl⟩) (Coe.tup (by (repeat (first | exact CoeL.nil | refine CoeL.cons Coe.rfl ?_)); done)) (ret4V e4 rfl)
          · skip
            refine AW.skip ?_
            refine AQ.blockN ?_
            refine AQ.thenN ?_
            refine AW.region ?_
            refine AO.op (O.add rfl rfl rfl (by exact wI64 (by omega))) rfl rfl rfl ?_
            refine AO.op (O.move rfl rfl) rfl rfl rfl ?_
            refine AO.nil ?_
            refine AQ.g ?_
            refine G.closeRow (b := b) (sz := 10) (n := (cleanE e now).inn.length) (cap := cap) 1 rfl hxs rfl hc1 hc2 ?_
            refine AQ.u ?_
            dsimp only [List.set]
            refine AQ.loopKN _ _ _ (by omega) (⟨k + 1, by omega, fun q hq => (Nat.lt_or_ge q k).elim (hn q) (fun h => by rw [show q = k by omega, hB, Bool.eq_false_iff, ne_eq, Bool.and_eq_true, beq_iff_eq, beq_iff_eq]; exact fun ⟨a, b⟩ => h82 a b), rfl, rfl, rfl⟩) (by repeat (first | exact envNil | refine envCons rfl ?_)) (by repeat (first | exact envNil | refine envCons rfl ?_)) (by repeat (first | exact subPnil | refine subPcons 1 rfl ?_))
        · skip
          obtain rfl : k = (cleanE e now).inn.length := by omega
          have e0 := fi_none (hB p m.id) Hd.none hn
          refine AW.exit ?_
          refine AQ.thenX ?_
          refine AQ.loopX ?_
          refine AQ.blockX rfl ?_
          refine AQ.thenN ?_
          refine AW.seq ?_
          refine AW.seq ?_
          refine AW.region ?_
          refine AO.op (O.fieldAddr rfl rfl) rfl rfl rfl ?_
          refine AO.op (O.load rfl rfl (by repeat (first | exact List.Mem.head _ | refine List.Mem.tail _ ?_)) (by rfl)) rfl rfl rfl ?_
          refine AO.op (O.lenRow rfl rfl (by repeat (exact List.Mem.head _))) rfl rfl rfl ?_
          refine AO.op (O.geq rfl rfl rfl (by rfl)) rfl rfl rfl ?_
          refine AO.nil ?_
          refine AQ.thenN ?_
          refine AW.split rfl (fun h91 => ?_) (fun h91 => ?_) <;> (try simp only [decide_eq_true_eq, decide_eq_false_iff_not, beq_iff_eq, beq_eq_false_iff_ne, bne_iff_ne, bne_eq_false_iff_eq, Bool.not_eq_true', Bool.not_eq_false', Bool.not_eq_true, Bool.not_eq_false, ne_eq, Int.not_lt, Int.not_le, Bool.and_eq_true, Bool.or_eq_true, Bool.or_eq_false_iff, Bool.and_eq_false_imp, strOf_toList, Decidable.not_not] at h91)
          · skip
            have e4 : recvR e p m now = (cleanE e now, 6, Msg.none, 0) := e3.trans (by rw [gotR, e0]; exact if_pos (by omega))
            refine AW.seq ?_
            refine AW.region ?_
            refine AO.op (O.loadK rfl rfl (by repeat (first | exact List.Mem.head _ | refine List.Mem.tail _ ?_)) (by rfl) (by rfl)) rfl rfl rfl ?_
            refine AO.op (O.build rfl rfl rfl (by rfl)) rfl rfl rfl ?_
            (refine AO.store (i := 4) rfl rfl rfl rfl rfl rfl (by (simp [AV.cells, AV.one, roB, roI, roO, show ∀ k z, (Value.int k z).oneCell' = true from fun _ _ => rfl, show ∀ k, (Value.bool k).oneCell' = true from fun _ => rfl, *]; done)) (by rfl) (by rfl) (by (dsimp only [List.set, List.append, List.cons_append, List.nil_append, AV.cells, splice, List.take, List.drop, Nat.reduceAdd]; done)) (by (dsimp only [List.set, List.append, List.cons_append, List.nil_append, AV.cells, splice, List.take, List.drop, Nat.reduceAdd]; done)) ?_)
            refine AO.op (O.assign rfl rfl) rfl rfl rfl ?_
            (refine AO.store (i := 3) rfl rfl rfl rfl rfl rfl (by rfl) (by rfl) (by rfl) (by (dsimp only [List.set, List.append, List.cons_append, List.nil_append, AV.cells, splice, List.take, List.drop, Nat.reduceAdd]; done)) (by (dsimp only [List.set, List.append, List.cons_append, List.nil_append, AV.cells, splice, List.take, List.drop, Nat.reduceAdd]; done)) ?_)
            refine AO.op (O.assign rfl rfl) rfl rfl rfl ?_
            refine AO.nil ?_
            refine AQ.thenN ?_
            refine AW.ret ?_
            refine AQ.thenR ?_
            refine AQ.g ?_
            refine G.freezeCell 0 3 3 rfl rfl rfl ?_
            refine AQ.u ?_
            dsimp only [List.eraseIdx, List.set]
            refine AQ.g ?_
            refine G.freezeCell 0 2 2 rfl rfl rfl ?_
            refine AQ.u ?_
            dsimp only [List.eraseIdx, List.set]
            refine AQ.g ?_
            refine G.freezeCell 0 1 1 rfl rfl rfl ?_
            refine AQ.u ?_
            dsimp only [List.eraseIdx, List.set]
            refine FnQ.coe (AQ.ret4G rfl (by exact ResAt.cell rfl (by repeat (first | exact List.Mem.head _ | refine List.Mem.tail _ ?_)) (by (dsimp only [List.set, List.append, List.cons_append, List.nil_append, AV.cells, splice, List.take, List.drop, Nat.reduceAdd]; done)) (by rfl)) (by exact ResAt.tmp rfl) (by exact ResAt.cell rfl (by repeat (exact List.Mem.head _)) (by (dsimp only [List.set, List.append, List.cons_append, List.nil_append, AV.cells, splice, List.take, List.drop, Nat.reduceAdd]; done)) (by rfl)) (by exact ResAt.tmp rfl) ⟨_, List.nil_sublist _, .nil⟩ ⟨rfl, rfl⟩) (Coe.tup (by (repeat (first | exact CoeL.nil | refine CoeL.cons Coe.rfl ?_ | refine CoeL.cons Coe.nil ?_ | refine CoeL.cons (Coe.agg ?_) ?_)); done)) (ret4V e4 rfl)
          · skip
            have e4 : recvR e p m now = (⟨(cleanE e now).next, (cleanE e now).out, (cleanE e now).used, (cleanE e now).inn ++ [⟨p, m.id, now + 128, false, Msg.none⟩]⟩, 1, Msg.none, 0) := e3.trans (by rw [gotR, e0]; exact if_neg (by omega))
            refine AW.skip ?_
            refine AQ.thenN ?_
            refine AW.seq ?_
            refine AW.region ?_
            refine AO.op (O.fieldAddr rfl rfl) rfl rfl rfl ?_
            refine AO.op (O.load rfl rfl (by repeat (first | exact List.Mem.head _ | refine List.Mem.tail _ ?_)) (by rfl)) rfl rfl rfl ?_
            refine AO.op (O.move rfl rfl) rfl rfl rfl ?_
            refine AO.op (O.fieldAddr rfl rfl) rfl rfl rfl ?_
            refine AO.op (O.load rfl rfl (by repeat (first | exact List.Mem.head _ | refine List.Mem.tail _ ?_)) (by rfl)) rfl rfl rfl ?_
            refine AO.op (O.move rfl rfl) rfl rfl rfl ?_
            refine AO.op (O.add rfl rfl rfl (by exact wI64 (by omega))) rfl rfl rfl ?_
            refine AO.op (O.build rfl rfl rfl (by rfl)) rfl rfl rfl ?_
            refine AO.opB (O.buildSlice rfl rfl rfl (by rfl) (by rfl) (by rfl) (by rfl)) rfl rfl rfl ?_
            intro B9
            refine AO.g ?_
            (refine G.freezeSl 0 102 rfl rfl ⟨Nat.le_refl _, by unfold maxLen; omega⟩ ?_)
            refine G.unfull 102 rfl ?_
            refine AO.u ?_
            dsimp only [List.eraseIdx]
            (refine AO.append' (i := 0) rfl rfl rfl rfl (by rfl) (by rfl) rfl rfl rfl (by exact SrcA.ro TyD.ax (by rfl) (Nat.le_of_ble_eq_true rfl)) (by rfl) (by (unfold maxLen; omega)) (by omega) (by (dsimp only [List.set, List.append, List.cons_append, List.nil_append, AV.cells, splice, List.take, List.drop, Nat.reduceAdd]; done)) (fun _ => by (dsimp only [List.set]; done)) ?_)
            intro V10 hV10
            refine AO.op (O.fieldAddr rfl rfl) rfl rfl rfl ?_
            (refine AO.store (i := 6) rfl rfl rfl rfl rfl rfl (by (simp [AV.cells, AV.one, *]; done)) (by rfl) (by rfl) (by (dsimp only [List.set, List.append, List.cons_append, List.nil_append, AV.cells, splice, List.take, List.drop, Nat.reduceAdd]; done)) (by (dsimp only [List.set, List.append, List.cons_append, List.nil_append, AV.cells, splice, List.take, List.drop, Nat.reduceAdd]; done)) ?_)
            refine AO.nil ?_
            refine AQ.thenN ?_
            refine AW.seq ?_
            refine AW.region ?_
            refine AO.op (O.loadK rfl rfl (by repeat (first | exact List.Mem.head _ | refine List.Mem.tail _ ?_)) (by rfl) (by rfl)) rfl rfl rfl ?_
            refine AO.op (O.build rfl rfl rfl (by rfl)) rfl rfl rfl ?_
            (refine AO.store (i := 4) rfl rfl rfl rfl rfl rfl (by (simp [AV.cells, AV.one, roB, roI, roO, show ∀ k z, (Value.int k z).oneCell' = true from fun _ _ => rfl, show ∀ k, (Value.bool k).oneCell' = true from fun _ => rfl, *]; done)) (by rfl) (by rfl) (by (dsimp only [List.set, List.append, List.cons_append, List.nil_append, AV.cells, splice, List.take, List.drop, Nat.reduceAdd]; done)) (by (dsimp only [List.set, List.append, List.cons_append, List.nil_append, AV.cells, splice, List.take, List.drop, Nat.reduceAdd]; done)) ?_)
            refine AO.op (O.assign rfl rfl) rfl rfl rfl ?_
            (refine AO.store (i := 3) rfl rfl rfl rfl rfl rfl (by rfl) (by rfl) (by rfl) (by (dsimp only [List.set, List.append, List.cons_append, List.nil_append, AV.cells, splice, List.take, List.drop, Nat.reduceAdd]; done)) (by (dsimp only [List.set, List.append, List.cons_append, List.nil_append, AV.cells, splice, List.take, List.drop, Nat.reduceAdd]; done)) ?_)
            refine AO.op (O.assign rfl rfl) rfl rfl rfl ?_
            refine AO.nil ?_
            refine AQ.thenN ?_
            refine AW.ret ?_
            refine AQ.g ?_
            refine G.coeRow 0 ((cleanE e now).inn ++ [(⟨p, m.id, now + 128, false, Msg.none⟩ : Hd)]).length (hdsA ((cleanE e now).inn ++ [(⟨p, m.id, now + 128, false, Msg.none⟩ : Hd)])) rfl (snoc_len _ _) (by rw [hdsA_snoc]; refine CoeL.app CoeL.refl ?_; repeat (first | exact CoeL.nil | refine CoeL.cons Coe.rfl ?_ | refine CoeL.cons Coe.nil ?_)) ?_
            refine AQ.u ?_
            dsimp only [List.set]
            refine AQ.g ?_
            refine G.freezeCell 0 3 3 rfl rfl rfl ?_
            refine AQ.u ?_
            dsimp only [List.eraseIdx, List.set]
            refine AQ.g ?_
            refine G.freezeCell 0 2 2 rfl rfl rfl ?_
            refine AQ.u ?_
            dsimp only [List.eraseIdx, List.set]
            refine AQ.g ?_
            refine G.freezeCell 0 1 1 rfl rfl rfl ?_
            refine AQ.u ?_
            dsimp only [List.eraseIdx, List.set]
            refine FnQ.coe (AQ.ret4G rfl (by exact ResAt.cell rfl (by repeat (first | exact List.Mem.head _ | refine List.Mem.tail _ ?_)) (by (dsimp only [List.set, List.append, List.cons_append, List.nil_append, AV.cells, splice, List.take, List.drop, Nat.reduceAdd]; done)) (by rfl)) (by exact ResAt.tmp rfl) (by exact ResAt.cell rfl (by repeat (exact List.Mem.head _)) (by (dsimp only [List.set, List.append, List.cons_append, List.nil_append, AV.cells, splice, List.take, List.drop, Nat.reduceAdd]; done)) (by rfl)) (by exact ResAt.tmp rfl) ⟨_, List.nil_sublist _, .nil⟩ ⟨rfl, rfl⟩) (Coe.tup (by (repeat (first | exact CoeL.nil | refine CoeL.cons Coe.rfl ?_ | refine CoeL.cons Coe.nil ?_ | refine CoeL.cons (Coe.agg ?_) ?_)); done)) (ret4V e4 rfl)
end Go.Proofs.Ytdnmilmcdbgppaa.By

namespace Go.Proofs.Ytdnmilmcdbgppaa.By
open Go.RowKit L A
set_option linter.unusedVariables false
set_option maxRecDepth 20000
set_option linter.unusedSimpArgs false
attribute [local irreducible] AW AQ AO
theorem wtsA_drop {l : List Wt} {k j : Nat} (h : j = k) : (wtsA l).drop (j * 9) = wtsA (l.drop k) := by subst h; exact flat_drop cellsW_len l j
theorem oneE {x y z : AV} (n : Int) (hx : x.one = true) (hy : y.one = true) (hz : z.one = true) : [AV.val (.int .i64 n), x, y, z].all AV.one = true := by
  simp only [List.all_cons, List.all_nil, hx, hy, hz]; rfl
set_option maxHeartbeats 4000000 in
theorem rrecv_fn (e : Ep) (p : Int) (m : Msg) (now : Int) (hb : BdE e) : Sp Try.prog 27 [aggE e, .val (.int .i64 p), aggM m, .val (.int .i64 now)] [] (Is (resV (recvR e p m now))) := by
  refine Sp.enter Try.func27 rfl _ Try.ntmps27 rfl (fun w0 R0 => ?_)
  refine AW.seq ?_
  refine AW.region ?_
  refine AO.opB (O.box rfl rfl rfl rfl rfl) rfl rfl rfl ?_
  intro B1
  refine AO.opB (O.box rfl rfl rfl rfl rfl) rfl rfl rfl ?_
  intro B2
  refine AO.opB (O.alloc rfl (by (dsimp only [zerosA, List.replicate, List.append, List.flatten, AV.cells, Value.cells, List.toList_toArray, List.map]; done)) (by rfl)) rfl rfl rfl ?_
  intro B3
  refine AO.op (O.assign rfl rfl) rfl rfl rfl ?_
  refine AO.opB (O.alloc rfl (by (dsimp only [zerosA, List.replicate, List.append, List.flatten, AV.cells, Value.cells, List.toList_toArray, List.map]; done)) (by rfl)) rfl rfl rfl ?_
  intro B4
  refine AO.op (O.assign rfl rfl) rfl rfl rfl ?_
  refine AO.nil ?_
  refine AQ.thenN ?_
  refine AW.seq ?_
  refine AW.seq ?_
  refine AW.region ?_
  refine AO.op (O.loadK rfl rfl (by repeat (first | exact List.Mem.head _ | refine List.Mem.tail _ ?_)) (by rfl) (by rfl)) rfl rfl rfl ?_
  refine AO.op (O.move rfl rfl) rfl rfl rfl ?_
  refine AO.op (O.move rfl rfl) rfl rfl rfl ?_
  refine AO.op (O.call rfl Try.func48 rfl rfl rfl (args_fn e _ _ hb)) rfl rfl rfl ?_
  refine AO.op (O.not rfl rfl (by rfl)) rfl rfl rfl ?_
  refine AO.op (O.move rfl rfl) rfl rfl rfl ?_
  refine AO.opG rfl rfl rfl (fun hp => O.loadK rfl rfl (by repeat (first | exact List.Mem.head _ | refine List.Mem.tail _ ?_)) (by rfl) (by rfl)) ?_
  refine AO.opG rfl rfl rfl (fun hp => OpW.force 23 rfl (by exact hp) (O.call rfl Try.func41 rfl rfl rfl (rvalid_fn m))) ?_
  refine AO.opG rfl rfl rfl (fun hp => OpW.force 24 rfl (by exact hp) (O.not rfl rfl (by rfl))) ?_
  refine AO.op (O.pickOr rfl rfl rfl rfl (fun h => by exact congrArg (fun b => !b) h)) rfl rfl rfl ?_
  refine AO.nil ?_
  refine AQ.thenN ?_
  refine AW.split rfl (fun h => ?_) (fun h => ?_) <;> (try simp only [decide_eq_true_eq, decide_eq_false_iff_not, beq_iff_eq, beq_eq_false_iff_ne, bne_iff_ne, bne_eq_false_iff_eq, Bool.not_eq_true', Bool.not_eq_false', Bool.not_eq_true, Bool.not_eq_false, ne_eq, Int.not_lt, Int.not_le, Bool.and_eq_true, Bool.or_eq_true, Bool.or_eq_false_iff, Bool.and_eq_false_imp, strOf_toList, Decidable.not_not] at h)
  · skip
    have e1 : recvR e p m now = (Ep.none, 0, Msg.none, 1) := if_neg (by
      rintro ⟨h1, h2, h3, h4⟩
      rcases h with h | h
      · exact h ⟨h1, h2, h3⟩
      · exact h h4)
    refine AW.seq ?_
    refine AW.region ?_
    refine AO.op (O.build rfl rfl rfl (by rfl)) rfl rfl rfl ?_
    refine AO.op (O.build rfl rfl rfl (by rfl)) rfl rfl rfl ?_
    (refine AO.store (i := 1) rfl rfl rfl rfl rfl rfl (by exact oneE _ (by rfl) (by rfl) (by rfl)) (by rfl) (by rfl) (by (dsimp only [List.set, List.cons_append, List.nil_append, List.take, List.drop]; done)) (by (dsimp only [List.set, List.cons_append, List.nil_append, List.take, List.drop]; done)) ?_)
    refine AO.op (O.assign rfl rfl) rfl rfl rfl ?_
    (refine AO.store (i := 0) rfl rfl rfl rfl rfl rfl (by exact oneE _ (by rfl) (by rfl) (by rfl)) (by rfl) (by rfl) (by (dsimp only [List.set, List.cons_append, List.nil_append, List.take, List.drop]; done)) (by (dsimp only [List.set, List.cons_append, List.nil_append, List.take, List.drop]; done)) ?_)
    refine AO.op (O.assign rfl rfl) rfl rfl rfl ?_
    refine AO.nil ?_
    refine AQ.thenN ?_
    refine AW.ret ?_
    refine AQ.thenR ?_
    refine FnQ.coe (AQ.ret4G rfl (by exact ResAt.cell rfl (by repeat (first | exact List.Mem.head _ | refine List.Mem.tail _ ?_)) (by (dsimp only [List.set, List.cons_append, List.nil_append, List.take, List.drop]; done)) (by rfl)) (by exact ResAt.tmp rfl) (by exact ResAt.cell rfl (by repeat (exact List.Mem.head _)) (by (dsimp only [List.set, List.cons_append, List.nil_append, List.take, List.drop]; done)) (by rfl)) (by exact ResAt.tmp rfl) ⟨_, List.nil_sublist _, .nil⟩ ⟨rfl, rfl⟩) (Coe.tup (by (repeat (first | exact CoeL.nil | refine CoeL.cons Coe.rfl ?_ | refine CoeL.cons Coe.nil ?_ | refine CoeL.cons (Coe.agg ?_) ?_)); done)) (ret4V e1 rfl)
  · skip
    obtain ⟨⟨hv, ht, hp⟩, hvm⟩ := h
    have hok : RecvOk e p m now := ⟨hv, ht, hp, hvm⟩
    have hsm := ValE.sm hv
    have hv1 := hv.2.1
    have hv4 := hv.2.2.2.1
    have hci := clean_inn e now
    have h0 : recvR e p m now = _ := if_pos hok
    have hco : (cleanE e now).out.length ≤ 16 := hv1
    have hcm : ∀ h ∈ (cleanE e now).inn, SmM h.m := fun h hh => hsm.im h (List.mem_filter.1 hh).1
    refine AW.skip ?_
    refine AQ.thenN ?_
    refine AW.seq ?_
    refine AW.region ?_
    refine AO.op (O.loadK rfl rfl (by repeat (first | exact List.Mem.head _ | refine List.Mem.tail _ ?_)) (by rfl) (by rfl)) rfl rfl rfl ?_
    refine AO.op (O.move rfl rfl) rfl rfl rfl ?_
    refine AO.opN (O.call rfl Try.func49 rfl rfl rfl (rclean_fn e now hsm)) rfl rfl rfl ?_
    rintro _ _ ⟨V15, V25, V35, hV15, hV25, hV35, rfl, rfl⟩
    simp only [List.cons_append, List.nil_append]
    refine AO.opB (O.alloc rfl (by (dsimp only [zerosA, List.replicate, List.append, List.flatten, AV.cells, Value.cells, List.toList_toArray, List.map]; done)) (by rfl)) rfl rfl rfl ?_
    intro B6
    (refine AO.store (i := 0) rfl rfl rfl rfl rfl rfl (by exact oneE _ (by assumption) (by assumption) (by assumption)) (by rfl) (by rfl) (by (dsimp only [List.set, List.cons_append, List.nil_append, List.take, List.drop]; done)) (by (dsimp only [List.set, List.cons_append, List.nil_append, List.take, List.drop]; done)) ?_)
    refine AO.nil ?_
    refine AQ.thenN ?_
    refine AW.seq ?_
    refine AW.seq ?_
    refine AW.region ?_
    refine AO.op (O.fieldAddr rfl rfl) rfl rfl rfl ?_
    refine AO.op (O.load rfl rfl (by repeat (first | exact List.Mem.head _ | refine List.Mem.tail _ ?_)) (by rfl)) rfl rfl rfl ?_
    refine AO.g ?_
    refine G.freezeCell 1 0 3 rfl rfl rfl ?_
    dsimp only [List.eraseIdx, List.set]
    refine G.freezeCell 1 0 2 rfl rfl rfl ?_
    dsimp only [List.eraseIdx, List.set]
    refine G.freezeCell 1 0 1 rfl rfl rfl ?_
    dsimp only [List.eraseIdx, List.set]
    refine AO.u ?_
    refine AO.op (O.eql rfl rfl rfl (by rfl)) rfl rfl rfl ?_
    refine AO.op (O.move rfl rfl) rfl rfl rfl ?_
    refine AO.opG rfl rfl rfl (fun hp => O.fieldAddr rfl rfl) ?_
    refine AO.opG rfl rfl rfl (fun hp => OpW.force 36 rfl (by exact hp) (O.load rfl rfl (by repeat (first | exact List.Mem.head _ | refine List.Mem.tail _ ?_)) (by rfl))) ?_
    refine AO.opG rfl rfl rfl (fun hp => OpW.force 37 rfl (by exact hp) (O.eql rfl rfl rfl (by rfl))) ?_
    refine AO.op (O.pickOr rfl rfl rfl rfl (fun h => by exact congrArg (fun b => !b) h)) rfl rfl rfl ?_
    refine AO.nil ?_
    refine AQ.thenN ?_
    generalize cleanE e now = c at *
    refine AW.split rfl (fun h2 => ?_) (fun h2 => ?_) <;> (try simp only [decide_eq_true_eq, decide_eq_false_iff_not, beq_iff_eq, beq_eq_false_iff_ne, bne_iff_ne, bne_eq_false_iff_eq, Bool.not_eq_true', Bool.not_eq_false', Bool.not_eq_true, Bool.not_eq_false, ne_eq, Int.not_lt, Int.not_le, Bool.and_eq_true, Bool.or_eq_true, Bool.or_eq_false_iff, Bool.and_eq_false_imp, strOf_toList, Decidable.not_not] at h2)
    · skip
      have e2 : recvR e p m now = _ := h0.trans (if_pos h2)
      refine AW.seq ?_
      refine AW.seq ?_
      refine AW.region ?_
      refine AO.op (O.fieldAddr rfl rfl) rfl rfl rfl ?_
      refine AO.op (O.load rfl rfl (by repeat (exact List.Mem.head _)) (by rfl)) rfl rfl rfl ?_
      refine AO.op (O.lenR rfl rfl) rfl rfl rfl ?_
      refine AO.op (O.move rfl rfl) rfl rfl rfl ?_
      refine AO.nil ?_
      refine AQ.thenN ?_
      refine AW.block ?_
      refine AW.loopK [(1, _), (6, _), (8, _), (10, _), (12, _), (41, _), (42, _)] (fun nn E H => ∃ (k : Nat), (k ≤ c.out.length) ∧ (∀ q, q < k → wB p m.id (wt c.out q) = false) ∧ nn = c.out.length - k ∧ E = [(43, .val (.int .i64 (k : Int)))] ∧ H = [.blk B6 26 4 [.val (.int .i64 c.next), roW c.out, roU c.used, roH c.inn], .blk B4 31 6 [.val (.int .i64 0), .val (.int .i64 0), .val (.int .i64 0), .val nilS, .val nilS, .val nilS], .blk B3 26 4 [.val (.int .i64 0), .val nilS, .val nilS, .val nilS], .blk B2 31 6 [.val (.int .i64 m.ty), .val (.int .i64 m.code), .val (.int .i64 m.id), roB m.tok, roO m.opts, roB m.pay]]) _ (⟨0, by omega, fun q hq => absurd hq (by omega), rfl, rfl, rfl⟩) (by repeat (first | exact envNil | refine envCons rfl ?_)) (by repeat (first | exact envNil | refine envCons rfl ?_)) (by repeat (first | exact subPnil | refine subPcons 0 rfl ?_)) ?_
      rintro nn E H ⟨k, hk1, hn, rfl, rfl, rfl⟩
      dsimp only [List.cons_append, List.nil_append]
      refine AW.seq ?_
      refine AW.region ?_
      refine AO.op (O.lss rfl rfl rfl (by rfl)) rfl rfl rfl ?_
      refine AO.nil ?_
      refine AQ.thenN ?_
      refine AW.seq ?_
      refine AW.split rfl (fun hlt => ?_) (fun hlt => ?_) <;> (try simp only [decide_eq_true_eq, decide_eq_false_iff_not, beq_iff_eq, beq_eq_false_iff_ne, bne_iff_ne, bne_eq_false_iff_eq, Bool.not_eq_true', Bool.not_eq_false', Bool.not_eq_true, Bool.not_eq_false, ne_eq, Int.not_lt, Int.not_le, Bool.and_eq_true, Bool.or_eq_true, Bool.or_eq_false_iff, Bool.and_eq_false_imp, strOf_toList, Decidable.not_not] at hlt)
      · skip
        have hk : k < c.out.length := by omega
        refine AW.skip ?_
        refine AQ.thenN ?_
        refine AW.seq ?_
        refine AW.block ?_
        refine AW.seq ?_
        refine AW.region ?_
        refine AO.op (O.move rfl rfl) rfl rfl rfl ?_
        refine AO.op (O.idxR rfl rfl rfl ⟨(by omega), (by omega)⟩) rfl rfl rfl ?_
        refine AO.op (O.loadRK rfl rfl (by exact getW (by omega) (by omega)) (by rfl)) rfl rfl rfl ?_
        refine AO.opB (O.alloc rfl (by (dsimp only [zerosA, List.replicate, List.append, List.flatten, AV.cells, Value.cells, List.toList_toArray, List.map]; done)) (by rfl)) rfl rfl rfl ?_
        intro B7
        refine AO.op (O.assign rfl rfl) rfl rfl rfl ?_
        (refine AO.store (i := 0) rfl rfl rfl rfl rfl rfl (by exact oneE _ (by rfl) (by rfl) (by rfl)) (by rfl) (by rfl) (by (dsimp only [List.set, List.cons_append, List.nil_append, List.take, List.drop]; done)) (by (dsimp only [List.set, List.cons_append, List.nil_append, List.take, List.drop]; done)) ?_)
        refine AO.nil ?_
        refine AQ.thenN ?_
        refine AW.seq ?_
        refine AW.region ?_
        refine AO.op (O.fieldAddr rfl rfl) rfl rfl rfl ?_
        refine AO.op (O.load rfl rfl (by repeat (exact List.Mem.head _)) (by rfl)) rfl rfl rfl ?_
        refine AO.op (O.move rfl rfl) rfl rfl rfl ?_
        refine AO.op (O.eql rfl rfl rfl (by rfl)) rfl rfl rfl ?_
        refine AO.op (O.move rfl rfl) rfl rfl rfl ?_
        refine AO.opG rfl rfl rfl (fun hp => O.fieldAddr rfl rfl) ?_
        refine AO.opG rfl rfl rfl (fun hp => OpW.force 53 rfl (by exact hp) (O.fieldAddr rfl rfl)) ?_
        refine AO.opG rfl rfl rfl (fun hp => OpW.force 54 rfl (by exact hp) (O.load rfl rfl (by repeat (exact List.Mem.head _)) (by rfl))) ?_
        refine AO.opG rfl rfl rfl (fun hp => O.fieldAddr rfl rfl) ?_
        refine AO.opG rfl rfl rfl (fun hp => OpW.force 56 rfl (by exact hp) (O.load rfl rfl (by repeat (first | exact List.Mem.head _ | refine List.Mem.tail _ ?_)) (by rfl))) ?_
        refine AO.opG rfl rfl rfl (fun hp => OpW.force 55 rfl (by exact hp) (OpW.force 57 rfl (by exact hp) (O.eql rfl rfl rfl (by rfl)))) ?_
        refine AO.op (O.pickAnd rfl rfl rfl rfl (fun h => by exact h)) rfl rfl rfl ?_
        refine AO.nil ?_
        refine AQ.thenN ?_
        refine AW.split rfl (fun h59 => ?_) (fun h59 => ?_) <;> (try simp only [decide_eq_true_eq, decide_eq_false_iff_not, beq_iff_eq, beq_eq_false_iff_ne, bne_iff_ne, bne_eq_false_iff_eq, Bool.not_eq_true', Bool.not_eq_false', Bool.not_eq_true, Bool.not_eq_false, ne_eq, Int.not_lt, Int.not_le, Bool.and_eq_true, Bool.or_eq_true, Bool.or_eq_false_iff, Bool.and_eq_false_imp, strOf_toList, Decidable.not_not] at h59)
        · skip
          have e0 := fi_some (wB p m.id) Wt.none hk (by rw [wB, Bool.and_eq_true, beq_iff_eq, beq_iff_eq]; exact h59) hn
          have e3 : recvR e p m now = (⟨c.next, c.out.eraseIdx k, c.used, c.inn⟩, 3 + m.ty - 2, Msg.none, 0) := e2.trans (by
            rw [endR, e0]
            show (_, (if m.ty = 3 then (4 : Int) else 3), _, _) = _
            rcases h2 with h | h
            · rw [if_neg (by omega), show (3 : Int) + m.ty - 2 = 3 by omega]
            · rw [if_pos h, show (3 : Int) + m.ty - 2 = 4 by omega])
          refine AW.seq ?_
          refine AW.regionD 10 (by kernel_rfl) (by kernel_rfl) ?_
          simp only [List.take_succ_cons, List.take_zero, List.drop_succ_cons, List.drop_zero]
          refine FA.op (O.fieldAddr rfl rfl) rfl rfl rfl rfl ?_
          refine FA.op (O.load rfl rfl (by repeat (first | exact List.Mem.head _ | refine List.Mem.tail _ ?_)) (by rfl)) rfl rfl rfl rfl ?_
          refine FA.op (O.move rfl rfl) rfl rfl rfl rfl ?_
          refine FA.op (O.sliceTo (k := k) rfl rfl rfl (by rfl) (by omega) (by exact wtsA_take rfl)) rfl rfl rfl rfl ?_
          refine FA.opN (O.appendNil rfl (by rfl) (by rfl) rfl rfl (by exact SrcA.ro TyD.ax (by (simp; omega)) (Nat.le_of_ble_eq_true rfl)) (by exact wtsA_one _) (by (unfold maxLen; omega)) (by omega)) rfl rfl rfl rfl ?_
          refine FA.op (O.fieldAddr rfl rfl) rfl rfl rfl rfl ?_
          refine FA.op (O.load rfl rfl (by repeat (first | exact List.Mem.head _ | refine List.Mem.tail _ ?_)) (by rfl)) rfl rfl rfl rfl ?_
          refine FA.op (O.move rfl rfl) rfl rfl rfl rfl ?_
          refine FA.op (O.add rfl rfl rfl (by exact wI64 (by omega))) rfl rfl rfl rfl ?_
          refine FA.op (O.sliceFrom (k := k + 1) rfl rfl rfl (by rfl) (by omega) (by simp) (by exact wtsA_drop rfl)) rfl rfl rfl rfl ?_
          refine FA.nil ?_
          simp only [chosen, List.nil_append, List.cons_append, List.append_nil]
          rintro _ _ ⟨V8, rfl, hV8, rfl⟩
          simp only [List.cons_append, List.nil_append]
          (refine AO.append' (i := 0) rfl rfl rfl rfl (by rfl) (by rfl) rfl rfl rfl (by exact SrcA.ro TyD.ax (by (simp; done)) (Nat.le_of_ble_eq_true rfl)) (by exact wtsA_one _) (by (unfold maxLen; omega)) (by omega) (by (dsimp only [List.set, List.cons_append, List.nil_append, List.take, List.drop]; done)) (fun _ => by (dsimp only [List.set]; done)) ?_)
          intro V9 hV9
          refine AO.op (O.fieldAddr rfl rfl) rfl rfl rfl ?_
          (refine AO.store (i := 2) rfl rfl rfl rfl rfl rfl (by (simp [AV.cells, AV.one, *]; done)) (by rfl) (by rfl) (by (dsimp only [List.set, List.cons_append, List.nil_append, List.take, List.drop]; done)) (by (dsimp only [List.set, List.cons_append, List.nil_append, List.take, List.drop]; done)) ?_)
          refine AO.nil ?_
          refine AQ.thenN ?_
          refine AW.seq ?_
          refine AW.regionM [(0, false), (1, false), (2, false), (3, false), (4, false), (5, false), (6, true), (7, false), (8, true), (9, false)] (by kernel_rfl) (by kernel_rfl) (by exact (by exact splitBlk 8 4 rfl rfl (by exact splitBlk 10 3 rfl rfl splitNil))) ?_
          dsimp only [List.eraseIdx]
          refine AM.op rfl (O.loadK rfl rfl (by repeat (first | exact List.Mem.head _ | refine List.Mem.tail _ ?_)) (by rfl) (by rfl)) rfl rfl rfl ?_
          refine AM.op rfl (O.fieldAddr rfl rfl) rfl rfl rfl ?_
          refine AM.op rfl (O.load rfl rfl (by repeat (first | exact List.Mem.head _ | refine List.Mem.tail _ ?_)) (by rfl)) rfl rfl rfl ?_
          refine AM.op rfl (O.add rfl rfl rfl (by exact wI64 (by omega))) rfl rfl rfl ?_
          refine AM.op rfl (O.sub rfl rfl rfl (by exact wI64 (by omega))) rfl rfl rfl ?_
          refine AM.op rfl (O.build rfl rfl rfl (by rfl)) rfl rfl rfl ?_
          refine AM.main _ rfl (fun w0 R0 => ?_)
          (refine AO.store (i := 0) rfl rfl rfl rfl rfl rfl (by exact oneE _ (by assumption) (by rfl) (by rfl)) (by rfl) (by rfl) (by (dsimp only [List.set, List.cons_append, List.nil_append, List.take, List.drop]; done)) (by (dsimp only [List.set, List.cons_append, List.nil_append, List.take, List.drop]; done)) ?_)
          refine AM.okN ?_
          dsimp only [putE]
          refine AM.op rfl (O.assign rfl rfl) rfl rfl rfl ?_
          refine AM.main _ rfl (fun w0 R0 => ?_)
          (refine AO.store (i := 1) rfl rfl rfl rfl rfl rfl (by exact oneE _ (by rfl) (by rfl) (by rfl)) (by rfl) (by rfl) (by (dsimp only [List.set, List.cons_append, List.nil_append, List.take, List.drop]; done)) (by (dsimp only [List.set, List.cons_append, List.nil_append, List.take, List.drop]; done)) ?_)
          refine AM.okN ?_
          dsimp only [putE]
          refine AM.op rfl (O.assign rfl rfl) rfl rfl rfl ?_
          refine AM.nil ?_
          dsimp only [List.cons_append, List.nil_append]
          refine AQ.thenN ?_
          refine AW.ret ?_
          refine AQ.blockR ?_
          refine AQ.thenR ?_
          refine AQ.loopR ?_
          refine AQ.blockR ?_
          refine AQ.thenR ?_
          refine AQ.thenR ?_
          refine AQ.g ?_
          refine G.freezeCell 2 0 1 rfl rfl rfl ?_
          refine AQ.u ?_
          dsimp only [List.eraseIdx, List.set]
          refine FnQ.coe (AQ.ret4G rfl (by exact ResAt.cell rfl (by repeat (exact List.Mem.head _)) (by (dsimp only [List.set, List.cons_append, List.nil_append, List.take, List.drop]; done)) (by rfl)) (by exact ResAt.tmp rfl) (by exact ResAt.cell rfl (by repeat (first | exact List.Mem.head _ | refine List.Mem.tail _ ?_)) (by (dsimp only [List.set, List.cons_append, List.nil_append, List.take, List.drop]; done)) (by rfl)) (by exact ResAt.tmp rfl) ⟨_, List.nil_sublist _, .nil⟩ ⟨rfl, rfl⟩) (Coe.tup (by (repeat (first | exact CoeL.nil | refine CoeL.cons Coe.rfl ?_ | refine CoeL.cons Coe.nil ?_ | refine CoeL.cons (Coe.agg ?_) ?_)); done)) (ret4V e3 (aggE_tup (aggE_of (e := ⟨_, _, _, _⟩) (by simp only [List.length_eraseIdx, if_pos hk]; omega) (by rw [← wtsA_app, ← List.eraseIdx_eq_take_drop_succ]) rfl rfl rfl rfl) _))
        · skip
          refine AW.skip ?_
          refine AQ.blockN ?_
          refine AQ.thenN ?_
          refine AW.region ?_
          refine AO.op (O.add rfl rfl rfl (by exact wI64 (by omega))) rfl rfl rfl ?_
          refine AO.op (O.move rfl rfl) rfl rfl rfl ?_
          refine AO.nil ?_
          refine AQ.loopKN _ _ _ (by omega) (⟨k + 1, by omega, fun q hq => (Nat.lt_or_ge q k).elim (hn q) (fun h => by rw [show q = k by omega, wB, Bool.eq_false_iff, ne_eq, Bool.and_eq_true, beq_iff_eq, beq_iff_eq]; exact fun ⟨a, b⟩ => h59 a b), rfl, rfl, rfl⟩) (by repeat (first | exact envNil | refine envCons rfl ?_)) (by repeat (first | exact envNil | refine envCons rfl ?_)) (by repeat (first | exact subPnil | refine subPcons 1 rfl ?_))
      · skip
        obtain rfl : k = c.out.length := by omega
        have e3 : recvR e p m now = (c, 5, Msg.none, 0) := e2.trans (by rw [endR, fi_none _ Wt.none hn])
        refine AW.exit ?_
        refine AQ.thenX ?_
        refine AQ.loopX ?_
        refine AQ.blockX rfl ?_
        refine AQ.thenN ?_
        refine AW.seq ?_
        refine AW.region ?_
        refine AO.op (O.loadK rfl rfl (by repeat (exact List.Mem.head _)) (by rfl) (by rfl)) rfl rfl rfl ?_
        refine AO.op (O.build rfl rfl rfl (by rfl)) rfl rfl rfl ?_
        (refine AO.store (i := 2) rfl rfl rfl rfl rfl rfl (by exact oneE _ (by rfl) (by rfl) (by rfl)) (by rfl) (by rfl) (by (dsimp only [List.set, List.cons_append, List.nil_append, List.take, List.drop]; done)) (by (dsimp only [List.set, List.cons_append, List.nil_append, List.take, List.drop]; done)) ?_)
        refine AO.op (O.assign rfl rfl) rfl rfl rfl ?_
        (refine AO.store (i := 1) rfl rfl rfl rfl rfl rfl (by exact oneE _ (by rfl) (by rfl) (by rfl)) (by rfl) (by rfl) (by (dsimp only [List.set, List.cons_append, List.nil_append, List.take, List.drop]; done)) (by (dsimp only [List.set, List.cons_append, List.nil_append, List.take, List.drop]; done)) ?_)
        refine AO.op (O.assign rfl rfl) rfl rfl rfl ?_
        refine AO.nil ?_
        refine AQ.thenN ?_
        refine AW.ret ?_
        refine AQ.thenR ?_
        refine FnQ.coe (AQ.ret4G rfl (by exact ResAt.cell rfl (by repeat (first | exact List.Mem.head _ | refine List.Mem.tail _ ?_)) (by (dsimp only [List.set, List.cons_append, List.nil_append, List.take, List.drop]; done)) (by rfl)) (by exact ResAt.tmp rfl) (by exact ResAt.cell rfl (by repeat (first | exact List.Mem.head _ | refine List.Mem.tail _ ?_)) (by (dsimp only [List.set, List.cons_append, List.nil_append, List.take, List.drop]; done)) (by rfl)) (by exact ResAt.tmp rfl) ⟨_, List.nil_sublist _, .nil⟩ ⟨rfl, rfl⟩) (Coe.tup (by (repeat (first | exact CoeL.nil | refine CoeL.cons Coe.rfl ?_ | refine CoeL.cons Coe.nil ?_ | refine CoeL.cons (Coe.agg ?_) ?_)); done)) (ret4V e3 rfl)
    · skip
      have e2 : recvR e p m now = _ := h0.trans (if_neg (fun g => g.elim h2.1 h2.2))
      refine AW.skip ?_
      refine AQ.thenN ?_
      refine AW.seq ?_
      refine AW.seq ?_
      refine AW.region ?_
      refine AO.op (O.fieldAddr rfl rfl) rfl rfl rfl ?_
      refine AO.op (O.load rfl rfl (by repeat (first | exact List.Mem.head _ | refine List.Mem.tail _ ?_)) (by rfl)) rfl rfl rfl ?_
      refine AO.op (O.eql rfl rfl rfl (by rfl)) rfl rfl rfl ?_
      refine AO.nil ?_
      refine AQ.thenN ?_
      refine AW.split rfl (fun h3 => ?_) (fun h3 => ?_) <;> (try simp only [decide_eq_true_eq, decide_eq_false_iff_not, beq_iff_eq, beq_eq_false_iff_ne, bne_iff_ne, bne_eq_false_iff_eq, Bool.not_eq_true', Bool.not_eq_false', Bool.not_eq_true, Bool.not_eq_false, ne_eq, Int.not_lt, Int.not_le, Bool.and_eq_true, Bool.or_eq_true, Bool.or_eq_false_iff, Bool.and_eq_false_imp, strOf_toList, Decidable.not_not] at h3)
      · skip
        have e3 : recvR e p m now = _ := e2.trans (if_pos h3)
        refine AW.seq ?_
        refine AW.seq ?_
        refine AW.region ?_
        refine AO.op (O.fieldAddr rfl rfl) rfl rfl rfl ?_
        refine AO.op (O.load rfl rfl (by repeat (first | exact List.Mem.head _ | refine List.Mem.tail _ ?_)) (by rfl)) rfl rfl rfl ?_
        refine AO.op (O.eql rfl rfl rfl (by rfl)) rfl rfl rfl ?_
        refine AO.nil ?_
        refine AQ.thenN ?_
        refine AW.split rfl (fun h4 => ?_) (fun h4 => ?_) <;> (try simp only [decide_eq_true_eq, decide_eq_false_iff_not, beq_iff_eq, beq_eq_false_iff_ne, bne_iff_ne, bne_eq_false_iff_eq, Bool.not_eq_true', Bool.not_eq_false', Bool.not_eq_true, Bool.not_eq_false, ne_eq, Int.not_lt, Int.not_le, Bool.and_eq_true, Bool.or_eq_true, Bool.or_eq_false_iff, Bool.and_eq_false_imp, strOf_toList, Decidable.not_not] at h4)
        · skip
          rw [if_pos h4] at e3
          refine AW.seq ?_
          refine AW.regionM [(0, false), (1, false), (2, false), (3, false), (4, true), (5, false), (6, true), (7, false)] (by kernel_rfl) (by kernel_rfl) (by exact (by exact splitBlk 8 2 rfl rfl (by exact splitBlk 10 1 rfl rfl splitNil))) ?_
          dsimp only [List.eraseIdx]
          refine AM.op rfl (O.loadK rfl rfl (by repeat (exact List.Mem.head _)) (by rfl) (by rfl)) rfl rfl rfl ?_
          refine AM.op rfl (O.fieldAddr rfl rfl) rfl rfl rfl ?_
          refine AM.op rfl (O.load rfl rfl (by repeat (first | exact List.Mem.head _ | refine List.Mem.tail _ ?_)) (by rfl)) rfl rfl rfl ?_
          refine AM.op rfl (O.build rfl rfl rfl (by rfl)) rfl rfl rfl ?_
          refine AM.main _ rfl (fun w0 R0 => ?_)
          (refine AO.store (i := 0) rfl rfl rfl rfl rfl rfl (by exact oneE _ (by rfl) (by rfl) (by rfl)) (by rfl) (by rfl) (by (dsimp only [List.set, List.cons_append, List.nil_append, List.take, List.drop]; done)) (by (dsimp only [List.set, List.cons_append, List.nil_append, List.take, List.drop]; done)) ?_)
          refine AM.okN ?_
          dsimp only [putE]
          refine AM.op rfl (O.assign rfl rfl) rfl rfl rfl ?_
          refine AM.main _ rfl (fun w0 R0 => ?_)
          (refine AO.store (i := 1) rfl rfl rfl rfl rfl rfl (by exact oneE _ (by rfl) (by rfl) (by rfl)) (by rfl) (by rfl) (by (dsimp only [List.set, List.cons_append, List.nil_append, List.take, List.drop]; done)) (by (dsimp only [List.set, List.cons_append, List.nil_append, List.take, List.drop]; done)) ?_)
          refine AM.okN ?_
          dsimp only [putE]
          refine AM.op rfl (O.assign rfl rfl) rfl rfl rfl ?_
          refine AM.nil ?_
          dsimp only [List.cons_append, List.nil_append]
          refine AQ.thenN ?_
          refine AW.ret ?_
          refine AQ.thenR ?_
          refine AQ.thenR ?_
          refine FnQ.coe (AQ.ret4G rfl (by exact ResAt.cell rfl (by repeat (exact List.Mem.head _)) (by (dsimp only [List.set, List.cons_append, List.nil_append, List.take, List.drop]; done)) (by rfl)) (by exact ResAt.tmp rfl) (by exact ResAt.cell rfl (by repeat (first | exact List.Mem.head _ | refine List.Mem.tail _ ?_)) (by (dsimp only [List.set, List.cons_append, List.nil_append, List.take, List.drop]; done)) (by rfl)) (by exact ResAt.tmp rfl) ⟨_, List.nil_sublist _, .nil⟩ ⟨rfl, rfl⟩) (Coe.tup (by (repeat (first | exact CoeL.nil | refine CoeL.cons Coe.rfl ?_ | refine CoeL.cons Coe.nil ?_ | refine CoeL.cons (Coe.agg ?_) ?_)); done)) (ret4V e3 rfl)
        · skip
          rw [if_neg h4] at e3
          refine AW.skip ?_
          refine AQ.thenN ?_
          refine AW.seq ?_
          refine AW.region ?_
          refine AO.op (O.loadK rfl rfl (by repeat (exact List.Mem.head _)) (by rfl) (by rfl)) rfl rfl rfl ?_
          refine AO.op (O.build rfl rfl rfl (by rfl)) rfl rfl rfl ?_
          (refine AO.store (i := 2) rfl rfl rfl rfl rfl rfl (by exact oneE _ (by rfl) (by rfl) (by rfl)) (by rfl) (by rfl) (by (dsimp only [List.set, List.cons_append, List.nil_append, List.take, List.drop]; done)) (by (dsimp only [List.set, List.cons_append, List.nil_append, List.take, List.drop]; done)) ?_)
          refine AO.op (O.assign rfl rfl) rfl rfl rfl ?_
          (refine AO.store (i := 1) rfl rfl rfl rfl rfl rfl (by exact oneE _ (by rfl) (by rfl) (by rfl)) (by rfl) (by rfl) (by (dsimp only [List.set, List.cons_append, List.nil_append, List.take, List.drop]; done)) (by (dsimp only [List.set, List.cons_append, List.nil_append, List.take, List.drop]; done)) ?_)
          refine AO.op (O.assign rfl rfl) rfl rfl rfl ?_
          refine AO.nil ?_
          refine AQ.thenN ?_
          refine AW.ret ?_
          refine AQ.thenR ?_
          refine FnQ.coe (AQ.ret4G rfl (by exact ResAt.cell rfl (by repeat (first | exact List.Mem.head _ | refine List.Mem.tail _ ?_)) (by (dsimp only [List.set, List.cons_append, List.nil_append, List.take, List.drop]; done)) (by rfl)) (by exact ResAt.tmp rfl) (by exact ResAt.cell rfl (by repeat (first | exact List.Mem.head _ | refine List.Mem.tail _ ?_)) (by (dsimp only [List.set, List.cons_append, List.nil_append, List.take, List.drop]; done)) (by rfl)) (by exact ResAt.tmp rfl) ⟨_, List.nil_sublist _, .nil⟩ ⟨rfl, rfl⟩) (Coe.tup (by (repeat (first | exact CoeL.nil | refine CoeL.cons Coe.rfl ?_ | refine CoeL.cons Coe.nil ?_ | refine CoeL.cons (Coe.agg ?_) ?_)); done)) (ret4V e3 rfl)
      · skip
        have e3 : recvR e p m now = _ := e2.trans (if_neg h3)
        refine AW.skip ?_
        refine AQ.thenN ?_
        refine AW.seq ?_
        refine AW.seq ?_
        refine AW.region ?_
        refine AO.op (O.fieldAddr rfl rfl) rfl rfl rfl ?_
        refine AO.op (O.load rfl rfl (by repeat (exact List.Mem.head _)) (by rfl)) rfl rfl rfl ?_
        refine AO.op (O.lenR rfl rfl) rfl rfl rfl ?_
        refine AO.op (O.move rfl rfl) rfl rfl rfl ?_
        refine AO.nil ?_
        refine AQ.thenN ?_
        refine AW.block ?_
        refine AW.loopK [(1, _), (3, _), (6, _), (8, _), (10, _), (12, _), (94, _), (95, _)] (fun nn E H => ∃ (k : Nat), (k ≤ c.inn.length) ∧ (∀ q, q < k → hB p m.id (hd c.inn q) = false) ∧ nn = c.inn.length - k ∧ E = [(96, .val (.int .i64 (k : Int)))] ∧ H = [.blk B6 26 4 [.val (.int .i64 c.next), roW c.out, roU c.used, roH c.inn], .blk B4 31 6 [.val (.int .i64 0), .val (.int .i64 0), .val (.int .i64 0), .val nilS, .val nilS, .val nilS], .blk B3 26 4 [.val (.int .i64 0), .val nilS, .val nilS, .val nilS], .blk B2 31 6 [.val (.int .i64 m.ty), .val (.int .i64 m.code), .val (.int .i64 m.id), roB m.tok, roO m.opts, roB m.pay]]) _ (⟨0, by omega, fun q hq => absurd hq (by omega), rfl, rfl, rfl⟩) (by repeat (first | exact envNil | refine envCons rfl ?_)) (by repeat (first | exact envNil | refine envCons rfl ?_)) (by repeat (first | exact subPnil | refine subPcons 0 rfl ?_)) ?_
        rintro nn E H ⟨k, hk1, hn, rfl, rfl, rfl⟩
        dsimp only [List.cons_append, List.nil_append]
        refine AW.seq ?_
        refine AW.region ?_
        refine AO.op (O.lss rfl rfl rfl (by rfl)) rfl rfl rfl ?_
        refine AO.nil ?_
        refine AQ.thenN ?_
        refine AW.seq ?_
        refine AW.split rfl (fun hlt => ?_) (fun hlt => ?_) <;> (try simp only [decide_eq_true_eq, decide_eq_false_iff_not, beq_iff_eq, beq_eq_false_iff_ne, bne_iff_ne, bne_eq_false_iff_eq, Bool.not_eq_true', Bool.not_eq_false', Bool.not_eq_true, Bool.not_eq_false, ne_eq, Int.not_lt, Int.not_le, Bool.and_eq_true, Bool.or_eq_true, Bool.or_eq_false_iff, Bool.and_eq_false_imp, strOf_toList, Decidable.not_not] at hlt)
        · skip
          have hk : k < c.inn.length := by omega
          have hmm := hcm _ (getD_mem Hd.none hk)
          refine AW.skip ?_
          refine AQ.thenN ?_
          refine AW.seq ?_
          refine AW.block ?_
          refine AW.seq ?_
          refine AW.region ?_
          refine AO.op (O.idxR rfl rfl rfl ⟨(by omega), (by omega)⟩) rfl rfl rfl ?_
          refine AO.op (O.loadRK rfl rfl (by exact getH (by omega) (by omega)) (by rfl)) rfl rfl rfl ?_
          refine AO.opB (O.alloc rfl (by (dsimp only [zerosA, List.replicate, List.append, List.flatten, AV.cells, Value.cells, List.toList_toArray, List.map]; done)) (by rfl)) rfl rfl rfl ?_
          intro B10
          (refine AO.store (i := 0) rfl rfl rfl rfl rfl rfl (by exact oneE _ (by rfl) (by rfl) (by rfl)) (by rfl) (by rfl) (by (dsimp only [List.set, List.cons_append, List.nil_append, List.take, List.drop]; done)) (by (dsimp only [List.set, List.cons_append, List.nil_append, List.take, List.drop]; done)) ?_)
          refine AO.nil ?_
          refine AQ.thenN ?_
          refine AW.seq ?_
          refine AW.region ?_
          refine AO.op (O.fieldAddr rfl rfl) rfl rfl rfl ?_
          refine AO.op (O.load rfl rfl (by repeat (exact List.Mem.head _)) (by rfl)) rfl rfl rfl ?_
          refine AO.op (O.move rfl rfl) rfl rfl rfl ?_
          refine AO.op (O.eql rfl rfl rfl (by rfl)) rfl rfl rfl ?_
          refine AO.op (O.move rfl rfl) rfl rfl rfl ?_
          refine AO.opG rfl rfl rfl (fun hp => O.fieldAddr rfl rfl) ?_
          refine AO.opG rfl rfl rfl (fun hp => OpW.force 105 rfl (by exact hp) (O.load rfl rfl (by repeat (exact List.Mem.head _)) (by rfl))) ?_
          refine AO.opG rfl rfl rfl (fun hp => O.fieldAddr rfl rfl) ?_
          refine AO.opG rfl rfl rfl (fun hp => OpW.force 107 rfl (by exact hp) (O.load rfl rfl (by repeat (first | exact List.Mem.head _ | refine List.Mem.tail _ ?_)) (by rfl))) ?_
          refine AO.opG rfl rfl rfl (fun hp => OpW.force 106 rfl (by exact hp) (OpW.force 108 rfl (by exact hp) (O.eql rfl rfl rfl (by rfl)))) ?_
          refine AO.op (O.pickAnd rfl rfl rfl rfl (fun h => by exact h)) rfl rfl rfl ?_
          refine AO.nil ?_
          refine AQ.thenN ?_
          refine AW.split rfl (fun h82 => ?_) (fun h82 => ?_) <;> (try simp only [decide_eq_true_eq, decide_eq_false_iff_not, beq_iff_eq, beq_eq_false_iff_ne, bne_iff_ne, bne_eq_false_iff_eq, Bool.not_eq_true', Bool.not_eq_false', Bool.not_eq_true, Bool.not_eq_false, ne_eq, Int.not_lt, Int.not_le, Bool.and_eq_true, Bool.or_eq_true, Bool.or_eq_false_iff, Bool.and_eq_false_imp, strOf_toList, Decidable.not_not] at h82)
          · skip
            have e0 := fi_some (hB p m.id) Hd.none hk (by rw [hB, Bool.and_eq_true, beq_iff_eq, beq_iff_eq]; exact h82) hn
            have e4 : recvR e p m now = (c, 2, (hd c.inn k).m, 0) := e3.trans (by rw [gotR, e0])
            refine AW.seq ?_
            refine AW.regionD 4 (by kernel_rfl) (by kernel_rfl) ?_
            simp only [List.take_succ_cons, List.take_zero, List.drop_succ_cons, List.drop_zero]
            refine FA.op (O.loadK rfl rfl (by repeat (first | exact List.Mem.head _ | refine List.Mem.tail _ ?_)) (by rfl) (by rfl)) rfl rfl rfl rfl ?_
            refine FA.op (O.fieldAddr rfl rfl) rfl rfl rfl rfl ?_
            refine FA.op (O.loadK rfl rfl (by repeat (exact List.Mem.head _)) (by rfl) (by rfl)) rfl rfl rfl rfl ?_
            refine FA.op (O.call rfl Try.func51 rfl rfl rfl (copy_fn (hd c.inn k).m hmm)) rfl rfl rfl rfl ?_
            refine FA.nil ?_
            simp only [chosen, List.nil_append, List.cons_append, List.append_nil]
            (refine AO.store (i := 3) rfl rfl rfl rfl rfl rfl (by exact oneE _ (by rfl) (by rfl) (by rfl)) (by rfl) (by rfl) (by (dsimp only [List.set, List.cons_append, List.nil_append, List.take, List.drop]; done)) (by (dsimp only [List.set, List.cons_append, List.nil_append, List.take, List.drop]; done)) ?_)
            refine AO.op (O.assign rfl rfl) rfl rfl rfl ?_
            (refine AO.store (i := 2) rfl rfl rfl rfl rfl rfl (by exact oneE _ (by rfl) (by rfl) (by rfl)) (by rfl) (by rfl) (by (dsimp only [List.set, List.cons_append, List.nil_append, List.take, List.drop]; done)) (by (dsimp only [List.set, List.cons_append, List.nil_append, List.take, List.drop]; done)) ?_)
            refine AO.op (O.assign rfl rfl) rfl rfl rfl ?_
            refine AO.nil ?_
            refine AQ.thenN ?_
            refine AW.ret ?_
            refine AQ.blockR ?_
            refine AQ.thenR ?_
            refine AQ.loopR ?_
            refine AQ.blockR ?_
            refine AQ.thenR ?_
            refine FnQ.coe (AQ.ret4G rfl (by exact ResAt.cell rfl (by repeat (first | exact List.Mem.head _ | refine List.Mem.tail _ ?_)) (by (dsimp only [List.set, List.cons_append, List.nil_append, List.take, List.drop]; done)) (by rfl)) (by exact ResAt.tmp rfl) (by exact ResAt.cell rfl (by repeat (first | exact List.Mem.head _ | refine List.Mem.tail _ ?_)) (by (dsimp only [List.set, List.cons_append, List.nil_append, List.take, List.drop]; done)) (by rfl)) (by exact ResAt.tmp rfl) ⟨_, List.nil_sublist _, .nil⟩ ⟨rfl, rfl⟩) (Coe.tup (by (repeat (first | exact CoeL.nil | refine CoeL.cons Coe.rfl ?_)); done)) (ret4V e4 rfl)
          · skip
            refine AW.skip ?_
            refine AQ.blockN ?_
            refine AQ.thenN ?_
            refine AW.region ?_
            refine AO.op (O.add rfl rfl rfl (by exact wI64 (by omega))) rfl rfl rfl ?_
            refine AO.op (O.move rfl rfl) rfl rfl rfl ?_
            refine AO.nil ?_
            refine AQ.loopKN _ _ _ (by omega) (⟨k + 1, by omega, fun q hq => (Nat.lt_or_ge q k).elim (hn q) (fun h => by rw [show q = k by omega, hB, Bool.eq_false_iff, ne_eq, Bool.and_eq_true, beq_iff_eq, beq_iff_eq]; exact fun ⟨a, b⟩ => h82 a b), rfl, rfl, rfl⟩) (by repeat (first | exact envNil | refine envCons rfl ?_)) (by repeat (first | exact envNil | refine envCons rfl ?_)) (by repeat (first | exact subPnil | refine subPcons 1 rfl ?_))
        · skip
          obtain rfl : k = c.inn.length := by omega
          have e0 := fi_none (hB p m.id) Hd.none hn
          refine AW.exit ?_
          refine AQ.thenX ?_
          refine AQ.loopX ?_
          refine AQ.blockX rfl ?_
          refine AQ.thenN ?_
          refine AW.seq ?_
          refine AW.seq ?_
          refine AW.region ?_
          refine AO.op (O.fieldAddr rfl rfl) rfl rfl rfl ?_
          refine AO.op (O.load rfl rfl (by repeat (exact List.Mem.head _)) (by rfl)) rfl rfl rfl ?_
          refine AO.op (O.lenR rfl rfl) rfl rfl rfl ?_
          refine AO.op (O.geq rfl rfl rfl (by rfl)) rfl rfl rfl ?_
          refine AO.nil ?_
          refine AQ.thenN ?_
          refine AW.split rfl (fun h91 => ?_) (fun h91 => ?_) <;> (try simp only [decide_eq_true_eq, decide_eq_false_iff_not, beq_iff_eq, beq_eq_false_iff_ne, bne_iff_ne, bne_eq_false_iff_eq, Bool.not_eq_true', Bool.not_eq_false', Bool.not_eq_true, Bool.not_eq_false, ne_eq, Int.not_lt, Int.not_le, Bool.and_eq_true, Bool.or_eq_true, Bool.or_eq_false_iff, Bool.and_eq_false_imp, strOf_toList, Decidable.not_not] at h91)
          · skip
            have e4 : recvR e p m now = (c, 6, Msg.none, 0) := e3.trans (by rw [gotR, e0]; exact if_pos (by omega))
            refine AW.seq ?_
            refine AW.region ?_
            refine AO.op (O.loadK rfl rfl (by repeat (exact List.Mem.head _)) (by rfl) (by rfl)) rfl rfl rfl ?_
            refine AO.op (O.build rfl rfl rfl (by rfl)) rfl rfl rfl ?_
            (refine AO.store (i := 2) rfl rfl rfl rfl rfl rfl (by exact oneE _ (by rfl) (by rfl) (by rfl)) (by rfl) (by rfl) (by (dsimp only [List.set, List.cons_append, List.nil_append, List.take, List.drop]; done)) (by (dsimp only [List.set, List.cons_append, List.nil_append, List.take, List.drop]; done)) ?_)
            refine AO.op (O.assign rfl rfl) rfl rfl rfl ?_
            (refine AO.store (i := 1) rfl rfl rfl rfl rfl rfl (by exact oneE _ (by rfl) (by rfl) (by rfl)) (by rfl) (by rfl) (by (dsimp only [List.set, List.cons_append, List.nil_append, List.take, List.drop]; done)) (by (dsimp only [List.set, List.cons_append, List.nil_append, List.take, List.drop]; done)) ?_)
            refine AO.op (O.assign rfl rfl) rfl rfl rfl ?_
            refine AO.nil ?_
            refine AQ.thenN ?_
            refine AW.ret ?_
            refine AQ.thenR ?_
            refine FnQ.coe (AQ.ret4G rfl (by exact ResAt.cell rfl (by repeat (first | exact List.Mem.head _ | refine List.Mem.tail _ ?_)) (by (dsimp only [List.set, List.cons_append, List.nil_append, List.take, List.drop]; done)) (by rfl)) (by exact ResAt.tmp rfl) (by exact ResAt.cell rfl (by repeat (first | exact List.Mem.head _ | refine List.Mem.tail _ ?_)) (by (dsimp only [List.set, List.cons_append, List.nil_append, List.take, List.drop]; done)) (by rfl)) (by exact ResAt.tmp rfl) ⟨_, List.nil_sublist _, .nil⟩ ⟨rfl, rfl⟩) (Coe.tup (by (repeat (first | exact CoeL.nil | refine CoeL.cons Coe.rfl ?_ | refine CoeL.cons Coe.nil ?_ | refine CoeL.cons (Coe.agg ?_) ?_)); done)) (ret4V e4 rfl)
          · skip
            have e4 : recvR e p m now = (⟨c.next, c.out, c.used, c.inn ++ [⟨p, m.id, now + 128, false, Msg.none⟩]⟩, 1, Msg.none, 0) := e3.trans (by rw [gotR, e0]; exact if_neg (by omega))
            refine AW.skip ?_
            refine AQ.thenN ?_
            refine AW.seq ?_
            refine AW.regionD 10 (by kernel_rfl) (by kernel_rfl) ?_
            simp only [List.take_succ_cons, List.take_zero, List.drop_succ_cons, List.drop_zero]
            refine FA.op (O.fieldAddr rfl rfl) rfl rfl rfl rfl ?_
            refine FA.op (O.load rfl rfl (by repeat (exact List.Mem.head _)) (by rfl)) rfl rfl rfl rfl ?_
            refine FA.opN (O.appendNil rfl (by rfl) (by rfl) rfl rfl (by exact SrcA.ro TyD.ax (by (simp; done)) (Nat.le_of_ble_eq_true rfl)) (by exact hdsA_one _) (by (unfold maxLen; omega)) (by omega)) rfl rfl rfl rfl ?_
            refine FA.op (O.move rfl rfl) rfl rfl rfl rfl ?_
            refine FA.op (O.fieldAddr rfl rfl) rfl rfl rfl rfl ?_
            refine FA.op (O.load rfl rfl (by repeat (first | exact List.Mem.head _ | refine List.Mem.tail _ ?_)) (by rfl)) rfl rfl rfl rfl ?_
            refine FA.op (O.move rfl rfl) rfl rfl rfl rfl ?_
            refine FA.op (O.add rfl rfl rfl (by exact wI64 (by omega))) rfl rfl rfl rfl ?_
            refine FA.op (O.build rfl rfl rfl (by rfl)) rfl rfl rfl rfl ?_
            refine FA.op (OpW.frz (O.buildSlice rfl rfl rfl (by rfl) (by rfl) (by rfl) (by rfl)) (by (unfold maxLen; omega))) rfl rfl rfl rfl ?_
            refine FA.nil ?_
            simp only [chosen, List.nil_append, List.cons_append, List.append_nil]
            rintro _ _ ⟨V11, rfl, hV11, rfl⟩
            simp only [List.cons_append, List.nil_append]
            (refine AO.append' (i := 0) rfl rfl rfl rfl (by rfl) (by rfl) rfl rfl rfl (by exact SrcA.ro TyD.ax (by rfl) (Nat.le_of_ble_eq_true rfl)) (by exact oneE _ (by rfl) (by rfl) (by rfl)) (by (unfold maxLen; omega)) (by omega) (by (dsimp only [List.set, List.cons_append, List.nil_append, List.take, List.drop]; done)) (fun _ => by (dsimp only [List.set]; done)) ?_)
            intro V12 hV12
            refine AO.op (O.fieldAddr rfl rfl) rfl rfl rfl ?_
            (refine AO.store (i := 1) rfl rfl rfl rfl rfl rfl (by (simp [AV.cells, AV.one, *]; done)) (by rfl) (by rfl) (by (dsimp only [List.set, List.cons_append, List.nil_append, List.take, List.drop]; done)) (by (dsimp only [List.set, List.cons_append, List.nil_append, List.take, List.drop]; done)) ?_)
            refine AO.nil ?_
            refine AQ.thenN ?_
            refine AW.seq ?_
            refine AW.region ?_
            refine AO.op (O.loadK rfl rfl (by repeat (first | exact List.Mem.head _ | refine List.Mem.tail _ ?_)) (by rfl) (by rfl)) rfl rfl rfl ?_
            refine AO.op (O.build rfl rfl rfl (by rfl)) rfl rfl rfl ?_
            (refine AO.store (i := 3) rfl rfl rfl rfl rfl rfl (by exact oneE _ (by rfl) (by rfl) (by assumption)) (by rfl) (by rfl) (by (dsimp only [List.set, List.cons_append, List.nil_append, List.take, List.drop]; done)) (by (dsimp only [List.set, List.cons_append, List.nil_append, List.take, List.drop]; done)) ?_)
            refine AO.op (O.assign rfl rfl) rfl rfl rfl ?_
            (refine AO.store (i := 2) rfl rfl rfl rfl rfl rfl (by exact oneE _ (by rfl) (by rfl) (by rfl)) (by rfl) (by rfl) (by (dsimp only [List.set, List.cons_append, List.nil_append, List.take, List.drop]; done)) (by (dsimp only [List.set, List.cons_append, List.nil_append, List.take, List.drop]; done)) ?_)
            refine AO.op (O.assign rfl rfl) rfl rfl rfl ?_
            refine AO.nil ?_
            refine AQ.thenN ?_
            refine AW.ret ?_
            refine AQ.g ?_
            refine G.coeRow 0 (c.inn ++ [(⟨p, m.id, now + 128, false, Msg.none⟩ : Hd)]).length (hdsA (c.inn ++ [(⟨p, m.id, now + 128, false, Msg.none⟩ : Hd)])) rfl (snoc_len _ _) (by rw [hdsA_snoc]; refine CoeL.app CoeL.refl ?_; repeat (first | exact CoeL.nil | refine CoeL.cons Coe.rfl ?_ | refine CoeL.cons Coe.nil ?_)) ?_
            refine AQ.u ?_
            dsimp only [List.set]
            refine AQ.g ?_
            refine G.freezeCell 0 2 3 rfl rfl rfl ?_
            refine AQ.u ?_
            dsimp only [List.eraseIdx, List.set]
            refine FnQ.coe (AQ.ret4G rfl (by exact ResAt.cell rfl (by repeat (first | exact List.Mem.head _ | refine List.Mem.tail _ ?_)) (by (dsimp only [List.set, List.cons_append, List.nil_append, List.take, List.drop]; done)) (by rfl)) (by exact ResAt.tmp rfl) (by exact ResAt.cell rfl (by repeat (first | exact List.Mem.head _ | refine List.Mem.tail _ ?_)) (by (dsimp only [List.set, List.cons_append, List.nil_append, List.take, List.drop]; done)) (by rfl)) (by exact ResAt.tmp rfl) ⟨_, List.nil_sublist _, .nil⟩ ⟨rfl, rfl⟩) (Coe.tup (by (repeat (first | exact CoeL.nil | refine CoeL.cons Coe.rfl ?_ | refine CoeL.cons Coe.nil ?_ | refine CoeL.cons (Coe.agg ?_) ?_)); done)) (ret4V e4 rfl)
end Go.Proofs.Ytdnmilmcdbgppaa.By
