/-
  The reference's bytes: Compare, Equal, Copy, Bytes, Number of layer 26.
-/
import Derived.Test.YtbkclbbhdeohfaaMs
namespace Go.Proofs.Ytbkclbbhdeohfaa.By
open Go.RowKit L A
set_option linter.unusedVariables false
set_option linter.unusedSimpArgs false
attribute [local irreducible] AW AQ AO

def cmpB : List UInt8 → List UInt8 → Int
  | x :: a, y :: b => if x = y then cmpB a b else if x.toNat < y.toNat then -1 else 1
  | [], [] => 0
  | [], _ => -1
  | _, [] => 1
theorem cmpB_zero : ∀ {a b : List UInt8}, cmpB a b = 0 ↔ a = b
  | [], [] => by simp [cmpB]
  | [], _ :: _ => by simp [cmpB]
  | _ :: _, [] => by simp [cmpB]
  | x :: a, y :: b => by
    unfold cmpB
    split
    · rename_i h
      rw [cmpB_zero, h]; simp
    · rename_i h
      simp only [List.cons.injEq, h, false_and, iff_false]
      split <;> omega
theorem cmpB_step {a b : List UInt8} {k : Nat} (h1 : k < a.length) (h2 : k < b.length) :
    cmpB (a.drop k) (b.drop k) = if bt a k = bt b k then cmpB (a.drop (k + 1)) (b.drop (k + 1)) else if (bt a k).toNat < (bt b k).toNat then -1 else 1 := by
  rw [drop_bt h1, drop_bt h2, cmpB]
theorem cmpB_end {a b : List UInt8} {k : Nat} (h1 : k ≤ a.length) (h2 : k ≤ b.length) (h : k < a.length → b.length ≤ k) : cmpB (a.drop k) (b.drop k) = if a.length < b.length then -1 else if b.length < a.length then 1 else 0 := by
  rcases Nat.lt_or_eq_of_le h1 with h3 | h3
  · have h4 : b.length = k := by have := h h3; omega
    have e : b.drop k = [] := List.drop_of_length_le (by omega)
    rw [drop_bt h3, e, if_neg (by omega), if_pos (by omega)]
    simp [cmpB]
  · have e : a.drop k = [] := List.drop_of_length_le (by omega)
    rw [e]
    rcases Nat.lt_or_eq_of_le h2 with h5 | h5
    · rw [drop_bt h5, if_pos (by omega)]; simp [cmpB]
    · have e : b.drop k = [] := List.drop_of_length_le (by omega)
      rw [e, if_neg (by omega), if_neg (by omega)]; simp [cmpB]

set_option maxHeartbeats 1000000 in
theorem compare_fn (a b : List UInt8) : Sp Try.prog 31 [roB a, roB b] [] (Is (.val (.int .i64 (cmpB a b)))) := by
  refine Sp.enter Try.func31 rfl _ Try.ntmps31 rfl (fun w0 R0 => ?_)
  refine AW.g ?_
  refine G.lenRo (t := 0) rfl (fun hm1 => ?_)
  refine AW.u ?_
  refine AW.g ?_
  refine G.lenRo (t := 1) rfl (fun hm2 => ?_)
  refine AW.u ?_
  unfold maxLen at hm1 hm2
  refine AW.seq ?_
  refine AW.region ?_
  refine AO.op (O.assign rfl rfl) rfl rfl rfl ?_
  refine AO.nil ?_
  refine AQ.thenN ?_
  refine AW.seq ?_
  refine AW.seq ?_
  refine AW.region ?_
  refine AO.op (O.assign rfl rfl) rfl rfl rfl ?_
  refine AO.nil ?_
  refine AQ.thenN ?_
  refine AW.block ?_
  refine AW.loopK [(0, _), (1, _)] (fun nn E H => ∃ (k : Nat), (k ≤ a.length) ∧ (k ≤ b.length) ∧ (cmpB a b = cmpB (a.drop k) (b.drop k)) ∧ nn = a.length - k ∧ E = [(5, .val (.int .i64 (k : Int)))] ∧ H = []) _ (⟨0, by omega, by omega, rfl, rfl, rfl, rfl⟩) (by repeat (first | exact envNil | refine envCons rfl ?_)) (by repeat (first | exact envNil | refine envCons rfl ?_)) (by repeat (first | exact subPnil | refine subPcons 0 rfl ?_ | refine subPcons 1 rfl ?_ | refine subPcons 2 rfl ?_ | refine subPcons 3 rfl ?_ | refine subPcons 4 rfl ?_ | refine subPcons 5 rfl ?_ | refine subPcons 6 rfl ?_ | refine subPcons 7 rfl ?_)) ?_
  rintro nn E H ⟨k, h1, h2, hc, rfl, rfl, rfl⟩
  dsimp only [List.cons_append, List.nil_append]
  refine AW.seq ?_
  refine AW.seq ?_
  refine AW.region ?_
  refine AO.op (O.move rfl rfl) rfl rfl rfl ?_
  refine AO.op (O.move rfl rfl) rfl rfl rfl ?_
  first | (refine AO.op (O.lenR rfl rfl) rfl rfl rfl ?_) | (refine AO.op (O.lenV rfl rfl) rfl rfl rfl ?_) | (refine AO.op (O.lenRow rfl rfl (by repeat (first | exact List.Mem.head _ | refine List.Mem.tail _ ?_))) rfl rfl rfl ?_) | (refine AO.op (O.lenS rfl rfl) rfl rfl rfl ?_)
  refine AO.op (O.lss rfl rfl rfl (by first | exact bTrue (by omega) | exact bFalse (by omega) | assumption | rfl)) rfl rfl rfl ?_
  refine AO.op (O.move rfl rfl) rfl rfl rfl ?_
  first | (refine AO.opG rfl rfl rfl (fun hp => O.move rfl rfl) ?_) | (refine AO.op (O.move rfl rfl) rfl rfl rfl ?_) | (refine AO.no rfl rfl rfl ?_)
  first | (refine AO.opG rfl rfl rfl (fun hp => O.move rfl rfl) ?_) | (refine AO.op (O.move rfl rfl) rfl rfl rfl ?_) | (refine AO.no rfl rfl rfl ?_)
  first | (refine AO.opG rfl rfl rfl (fun hp => OpW.force 12 rfl (by first | exact hp | simp_all) (O.lenR rfl rfl)) ?_) | (refine AO.opG rfl rfl rfl (fun hp => OpW.force 12 rfl (by first | exact hp | simp_all) (O.lenV rfl rfl)) ?_) | (refine AO.opG rfl rfl rfl (fun hp => OpW.force 12 rfl (by first | exact hp | simp_all) (O.lenRow rfl rfl (by repeat (first | exact List.Mem.head _ | refine List.Mem.tail _ ?_)))) ?_) | (refine AO.opG rfl rfl rfl (fun hp => OpW.force 12 rfl (by first | exact hp | simp_all) (O.lenS rfl rfl)) ?_) | (refine AO.op (O.lenR rfl rfl) rfl rfl rfl ?_) | (refine AO.op (O.lenV rfl rfl) rfl rfl rfl ?_) | (refine AO.op (O.lenRow rfl rfl (by repeat (first | exact List.Mem.head _ | refine List.Mem.tail _ ?_))) rfl rfl rfl ?_) | (refine AO.op (O.lenS rfl rfl) rfl rfl rfl ?_) | (refine AO.no rfl rfl rfl ?_)
  first | (refine AO.opG rfl rfl rfl (fun hp => OpW.force 11 rfl (by first | exact hp | simp_all) (OpW.force 13 rfl (by first | exact hp | simp_all) (O.lss rfl rfl rfl (by first | exact bTrue (by omega) | exact bFalse (by omega) | assumption | rfl)))) ?_) | (refine AO.op (O.lss rfl rfl rfl (by first | exact bTrue (by omega) | exact bFalse (by omega) | assumption | rfl)) rfl rfl rfl ?_) | (refine AO.no rfl rfl rfl ?_)
  first | (refine AO.op (O.pickAnd rfl rfl rfl rfl (fun h => by first | exact h | simp_all)) rfl rfl rfl ?_) | (refine AO.op (O.pickF rfl rfl rfl) rfl rfl rfl ?_) | (refine AO.op (O.pickT rfl rfl rfl) rfl rfl rfl ?_)
  refine AO.nil ?_
  refine AQ.thenN ?_
  refine AW.split rfl (fun h => ?_) (fun h => ?_) <;> (try simp only [decide_eq_true_eq, decide_eq_false_iff_not, beq_iff_eq, beq_eq_false_iff_ne, bne_iff_ne, bne_eq_false_iff_eq, Bool.not_eq_true', Bool.not_eq_false', Bool.not_eq_true, Bool.not_eq_false, ne_eq, Int.not_lt, Int.not_le, Bool.and_eq_true, Bool.or_eq_true, Bool.or_eq_false_iff, Bool.and_eq_false_imp, strOf_toList, Decidable.not_not] at h)
  · skip
    have h3 : k < a.length := by omega
    have h4 : k < b.length := by omega
    rw [cmpB_step h3 h4] at hc
    refine AW.skip ?_
    refine AQ.thenN ?_
    refine AW.seq ?_
    refine AW.block ?_
    refine AW.seq ?_
    refine AW.regionD 9 (by kernel_rfl) (by kernel_rfl) ?_
    simp only [List.take_succ_cons, List.take_zero, List.drop_succ_cons, List.drop_zero]
    refine FA.op (O.move rfl rfl) rfl rfl rfl rfl ?_
    refine FA.op (O.move rfl rfl) rfl rfl rfl rfl ?_
    first | (refine FA.op (O.idxR rfl rfl rfl ⟨(by first | omega | (simp only [List.length_take, List.length_drop, List.length_append, List.length_cons, List.length_nil, List.length_set, Nat.zero_add]; omega) | (simp only [cond_true, cond_false, Bool.not_eq_true', Bool.not_eq_false', Bool.and_eq_true, Bool.or_eq_true, Bool.or_eq_false_iff, Bool.and_eq_false_imp, decide_eq_true_eq, decide_eq_false_iff_not, beq_iff_eq, bne_iff_ne, bne_eq_false_iff_eq, ne_eq] at hp; omega)), (by first | omega | (simp only [List.length_take, List.length_drop, List.length_append, List.length_cons, List.length_nil, List.length_set, Nat.zero_add]; omega) | (simp only [cond_true, cond_false, Bool.not_eq_true', Bool.not_eq_false', Bool.and_eq_true, Bool.or_eq_true, Bool.or_eq_false_iff, Bool.and_eq_false_imp, decide_eq_true_eq, decide_eq_false_iff_not, beq_iff_eq, bne_iff_ne, bne_eq_false_iff_eq, ne_eq] at hp; omega))⟩) rfl rfl rfl rfl ?_) | (refine FA.op (O.idxV rfl rfl rfl ⟨(by first | omega | (simp only [List.length_take, List.length_drop, List.length_append, List.length_cons, List.length_nil, List.length_set, Nat.zero_add]; omega) | (simp only [cond_true, cond_false, Bool.not_eq_true', Bool.not_eq_false', Bool.and_eq_true, Bool.or_eq_true, Bool.or_eq_false_iff, Bool.and_eq_false_imp, decide_eq_true_eq, decide_eq_false_iff_not, beq_iff_eq, bne_iff_ne, bne_eq_false_iff_eq, ne_eq] at hp; omega)), (by first | omega | (simp only [List.length_take, List.length_drop, List.length_append, List.length_cons, List.length_nil, List.length_set, Nat.zero_add]; omega) | (simp only [cond_true, cond_false, Bool.not_eq_true', Bool.not_eq_false', Bool.and_eq_true, Bool.or_eq_true, Bool.or_eq_false_iff, Bool.and_eq_false_imp, decide_eq_true_eq, decide_eq_false_iff_not, beq_iff_eq, bne_iff_ne, bne_eq_false_iff_eq, ne_eq] at hp; omega))⟩) rfl rfl rfl rfl ?_)
    first | (refine FA.op (O.loadR rfl rfl (by first | rfl | assumption | exact bt_at (by assumption) (by omega) | exact bt_at (by omega) (by omega) | exact bt_at (k := 0) (by first | omega | (simp only [List.length_take, List.length_drop, List.length_append, List.length_cons, List.length_nil, List.length_set, Nat.zero_add]; omega) | (simp only [cond_true, cond_false, Bool.not_eq_true', Bool.not_eq_false', Bool.and_eq_true, Bool.or_eq_true, Bool.or_eq_false_iff, Bool.and_eq_false_imp, decide_eq_true_eq, decide_eq_false_iff_not, beq_iff_eq, bne_iff_ne, bne_eq_false_iff_eq, ne_eq] at hp; omega)) rfl | exact bt_at (k := 1) (by first | omega | (simp only [List.length_take, List.length_drop, List.length_append, List.length_cons, List.length_nil, List.length_set, Nat.zero_add]; omega) | (simp only [cond_true, cond_false, Bool.not_eq_true', Bool.not_eq_false', Bool.and_eq_true, Bool.or_eq_true, Bool.or_eq_false_iff, Bool.and_eq_false_imp, decide_eq_true_eq, decide_eq_false_iff_not, beq_iff_eq, bne_iff_ne, bne_eq_false_iff_eq, ne_eq] at hp; omega)) rfl | exact bt_at (k := 2) (by first | omega | (simp only [List.length_take, List.length_drop, List.length_append, List.length_cons, List.length_nil, List.length_set, Nat.zero_add]; omega) | (simp only [cond_true, cond_false, Bool.not_eq_true', Bool.not_eq_false', Bool.and_eq_true, Bool.or_eq_true, Bool.or_eq_false_iff, Bool.and_eq_false_imp, decide_eq_true_eq, decide_eq_false_iff_not, beq_iff_eq, bne_iff_ne, bne_eq_false_iff_eq, ne_eq] at hp; omega)) rfl | exact bt_at (k := 3) (by first | omega | (simp only [List.length_take, List.length_drop, List.length_append, List.length_cons, List.length_nil, List.length_set, Nat.zero_add]; omega) | (simp only [cond_true, cond_false, Bool.not_eq_true', Bool.not_eq_false', Bool.and_eq_true, Bool.or_eq_true, Bool.or_eq_false_iff, Bool.and_eq_false_imp, decide_eq_true_eq, decide_eq_false_iff_not, beq_iff_eq, bne_iff_ne, bne_eq_false_iff_eq, ne_eq] at hp; omega)) rfl)) rfl rfl rfl rfl ?_) | (refine FA.op (O.load rfl rfl (by repeat (first | exact List.Mem.head _ | refine List.Mem.tail _ ?_)) (by first | rfl | assumption | exact bt_at (by assumption) (by omega) | exact bt_at (by omega) (by omega) | exact bt_at (k := 0) (by first | omega | (simp only [List.length_take, List.length_drop, List.length_append, List.length_cons, List.length_nil, List.length_set, Nat.zero_add]; omega) | (simp only [cond_true, cond_false, Bool.not_eq_true', Bool.not_eq_false', Bool.and_eq_true, Bool.or_eq_true, Bool.or_eq_false_iff, Bool.and_eq_false_imp, decide_eq_true_eq, decide_eq_false_iff_not, beq_iff_eq, bne_iff_ne, bne_eq_false_iff_eq, ne_eq] at hp; omega)) rfl | exact bt_at (k := 1) (by first | omega | (simp only [List.length_take, List.length_drop, List.length_append, List.length_cons, List.length_nil, List.length_set, Nat.zero_add]; omega) | (simp only [cond_true, cond_false, Bool.not_eq_true', Bool.not_eq_false', Bool.and_eq_true, Bool.or_eq_true, Bool.or_eq_false_iff, Bool.and_eq_false_imp, decide_eq_true_eq, decide_eq_false_iff_not, beq_iff_eq, bne_iff_ne, bne_eq_false_iff_eq, ne_eq] at hp; omega)) rfl | exact bt_at (k := 2) (by first | omega | (simp only [List.length_take, List.length_drop, List.length_append, List.length_cons, List.length_nil, List.length_set, Nat.zero_add]; omega) | (simp only [cond_true, cond_false, Bool.not_eq_true', Bool.not_eq_false', Bool.and_eq_true, Bool.or_eq_true, Bool.or_eq_false_iff, Bool.and_eq_false_imp, decide_eq_true_eq, decide_eq_false_iff_not, beq_iff_eq, bne_iff_ne, bne_eq_false_iff_eq, ne_eq] at hp; omega)) rfl | exact bt_at (k := 3) (by first | omega | (simp only [List.length_take, List.length_drop, List.length_append, List.length_cons, List.length_nil, List.length_set, Nat.zero_add]; omega) | (simp only [cond_true, cond_false, Bool.not_eq_true', Bool.not_eq_false', Bool.and_eq_true, Bool.or_eq_true, Bool.or_eq_false_iff, Bool.and_eq_false_imp, decide_eq_true_eq, decide_eq_false_iff_not, beq_iff_eq, bne_iff_ne, bne_eq_false_iff_eq, ne_eq] at hp; omega)) rfl)) rfl rfl rfl rfl ?_)
    refine FA.op (O.move rfl rfl) rfl rfl rfl rfl ?_
    refine FA.op (O.move rfl rfl) rfl rfl rfl rfl ?_
    first | (refine FA.op (O.idxR rfl rfl rfl ⟨(by first | omega | (simp only [List.length_take, List.length_drop, List.length_append, List.length_cons, List.length_nil, List.length_set, Nat.zero_add]; omega) | (simp only [cond_true, cond_false, Bool.not_eq_true', Bool.not_eq_false', Bool.and_eq_true, Bool.or_eq_true, Bool.or_eq_false_iff, Bool.and_eq_false_imp, decide_eq_true_eq, decide_eq_false_iff_not, beq_iff_eq, bne_iff_ne, bne_eq_false_iff_eq, ne_eq] at hp; omega)), (by first | omega | (simp only [List.length_take, List.length_drop, List.length_append, List.length_cons, List.length_nil, List.length_set, Nat.zero_add]; omega) | (simp only [cond_true, cond_false, Bool.not_eq_true', Bool.not_eq_false', Bool.and_eq_true, Bool.or_eq_true, Bool.or_eq_false_iff, Bool.and_eq_false_imp, decide_eq_true_eq, decide_eq_false_iff_not, beq_iff_eq, bne_iff_ne, bne_eq_false_iff_eq, ne_eq] at hp; omega))⟩) rfl rfl rfl rfl ?_) | (refine FA.op (O.idxV rfl rfl rfl ⟨(by first | omega | (simp only [List.length_take, List.length_drop, List.length_append, List.length_cons, List.length_nil, List.length_set, Nat.zero_add]; omega) | (simp only [cond_true, cond_false, Bool.not_eq_true', Bool.not_eq_false', Bool.and_eq_true, Bool.or_eq_true, Bool.or_eq_false_iff, Bool.and_eq_false_imp, decide_eq_true_eq, decide_eq_false_iff_not, beq_iff_eq, bne_iff_ne, bne_eq_false_iff_eq, ne_eq] at hp; omega)), (by first | omega | (simp only [List.length_take, List.length_drop, List.length_append, List.length_cons, List.length_nil, List.length_set, Nat.zero_add]; omega) | (simp only [cond_true, cond_false, Bool.not_eq_true', Bool.not_eq_false', Bool.and_eq_true, Bool.or_eq_true, Bool.or_eq_false_iff, Bool.and_eq_false_imp, decide_eq_true_eq, decide_eq_false_iff_not, beq_iff_eq, bne_iff_ne, bne_eq_false_iff_eq, ne_eq] at hp; omega))⟩) rfl rfl rfl rfl ?_)
    first | (refine FA.op (O.loadR rfl rfl (by first | rfl | assumption | exact bt_at (by assumption) (by omega) | exact bt_at (by omega) (by omega) | exact bt_at (k := 0) (by first | omega | (simp only [List.length_take, List.length_drop, List.length_append, List.length_cons, List.length_nil, List.length_set, Nat.zero_add]; omega) | (simp only [cond_true, cond_false, Bool.not_eq_true', Bool.not_eq_false', Bool.and_eq_true, Bool.or_eq_true, Bool.or_eq_false_iff, Bool.and_eq_false_imp, decide_eq_true_eq, decide_eq_false_iff_not, beq_iff_eq, bne_iff_ne, bne_eq_false_iff_eq, ne_eq] at hp; omega)) rfl | exact bt_at (k := 1) (by first | omega | (simp only [List.length_take, List.length_drop, List.length_append, List.length_cons, List.length_nil, List.length_set, Nat.zero_add]; omega) | (simp only [cond_true, cond_false, Bool.not_eq_true', Bool.not_eq_false', Bool.and_eq_true, Bool.or_eq_true, Bool.or_eq_false_iff, Bool.and_eq_false_imp, decide_eq_true_eq, decide_eq_false_iff_not, beq_iff_eq, bne_iff_ne, bne_eq_false_iff_eq, ne_eq] at hp; omega)) rfl | exact bt_at (k := 2) (by first | omega | (simp only [List.length_take, List.length_drop, List.length_append, List.length_cons, List.length_nil, List.length_set, Nat.zero_add]; omega) | (simp only [cond_true, cond_false, Bool.not_eq_true', Bool.not_eq_false', Bool.and_eq_true, Bool.or_eq_true, Bool.or_eq_false_iff, Bool.and_eq_false_imp, decide_eq_true_eq, decide_eq_false_iff_not, beq_iff_eq, bne_iff_ne, bne_eq_false_iff_eq, ne_eq] at hp; omega)) rfl | exact bt_at (k := 3) (by first | omega | (simp only [List.length_take, List.length_drop, List.length_append, List.length_cons, List.length_nil, List.length_set, Nat.zero_add]; omega) | (simp only [cond_true, cond_false, Bool.not_eq_true', Bool.not_eq_false', Bool.and_eq_true, Bool.or_eq_true, Bool.or_eq_false_iff, Bool.and_eq_false_imp, decide_eq_true_eq, decide_eq_false_iff_not, beq_iff_eq, bne_iff_ne, bne_eq_false_iff_eq, ne_eq] at hp; omega)) rfl)) rfl rfl rfl rfl ?_) | (refine FA.op (O.load rfl rfl (by repeat (first | exact List.Mem.head _ | refine List.Mem.tail _ ?_)) (by first | rfl | assumption | exact bt_at (by assumption) (by omega) | exact bt_at (by omega) (by omega) | exact bt_at (k := 0) (by first | omega | (simp only [List.length_take, List.length_drop, List.length_append, List.length_cons, List.length_nil, List.length_set, Nat.zero_add]; omega) | (simp only [cond_true, cond_false, Bool.not_eq_true', Bool.not_eq_false', Bool.and_eq_true, Bool.or_eq_true, Bool.or_eq_false_iff, Bool.and_eq_false_imp, decide_eq_true_eq, decide_eq_false_iff_not, beq_iff_eq, bne_iff_ne, bne_eq_false_iff_eq, ne_eq] at hp; omega)) rfl | exact bt_at (k := 1) (by first | omega | (simp only [List.length_take, List.length_drop, List.length_append, List.length_cons, List.length_nil, List.length_set, Nat.zero_add]; omega) | (simp only [cond_true, cond_false, Bool.not_eq_true', Bool.not_eq_false', Bool.and_eq_true, Bool.or_eq_true, Bool.or_eq_false_iff, Bool.and_eq_false_imp, decide_eq_true_eq, decide_eq_false_iff_not, beq_iff_eq, bne_iff_ne, bne_eq_false_iff_eq, ne_eq] at hp; omega)) rfl | exact bt_at (k := 2) (by first | omega | (simp only [List.length_take, List.length_drop, List.length_append, List.length_cons, List.length_nil, List.length_set, Nat.zero_add]; omega) | (simp only [cond_true, cond_false, Bool.not_eq_true', Bool.not_eq_false', Bool.and_eq_true, Bool.or_eq_true, Bool.or_eq_false_iff, Bool.and_eq_false_imp, decide_eq_true_eq, decide_eq_false_iff_not, beq_iff_eq, bne_iff_ne, bne_eq_false_iff_eq, ne_eq] at hp; omega)) rfl | exact bt_at (k := 3) (by first | omega | (simp only [List.length_take, List.length_drop, List.length_append, List.length_cons, List.length_nil, List.length_set, Nat.zero_add]; omega) | (simp only [cond_true, cond_false, Bool.not_eq_true', Bool.not_eq_false', Bool.and_eq_true, Bool.or_eq_true, Bool.or_eq_false_iff, Bool.and_eq_false_imp, decide_eq_true_eq, decide_eq_false_iff_not, beq_iff_eq, bne_iff_ne, bne_eq_false_iff_eq, ne_eq] at hp; omega)) rfl)) rfl rfl rfl rfl ?_)
    refine FA.op (O.neq rfl rfl rfl (by first | exact bne_iff_ne.2 (by omega) | exact bne_eq_false_iff_eq.2 (by omega) | assumption | rfl)) rfl rfl rfl rfl ?_
    refine FA.nil ?_
    simp only [chosen, List.nil_append, List.cons_append, List.append_nil]
    refine AO.nil ?_
    refine AQ.thenN ?_
    refine AW.split rfl (fun h5 => ?_) (fun h5 => ?_) <;> (try simp only [decide_eq_true_eq, decide_eq_false_iff_not, beq_iff_eq, beq_eq_false_iff_ne, bne_iff_ne, bne_eq_false_iff_eq, Bool.not_eq_true', Bool.not_eq_false', Bool.not_eq_true, Bool.not_eq_false, ne_eq, Int.not_lt, Int.not_le, Bool.and_eq_true, Bool.or_eq_true, Bool.or_eq_false_iff, Bool.and_eq_false_imp, strOf_toList, Decidable.not_not] at h5)
    · skip
      rw [if_neg (fun e => h5 (by rw [e]))] at hc
      refine AW.seq ?_
      refine AW.seq ?_
      refine AW.regionD 9 (by kernel_rfl) (by kernel_rfl) ?_
      simp only [List.take_succ_cons, List.take_zero, List.drop_succ_cons, List.drop_zero]
      refine FA.op (O.move rfl rfl) rfl rfl rfl rfl ?_
      refine FA.op (O.move rfl rfl) rfl rfl rfl rfl ?_
      first | (refine FA.op (O.idxR rfl rfl rfl ⟨(by first | omega | (simp only [List.length_take, List.length_drop, List.length_append, List.length_cons, List.length_nil, List.length_set, Nat.zero_add]; omega) | (simp only [cond_true, cond_false, Bool.not_eq_true', Bool.not_eq_false', Bool.and_eq_true, Bool.or_eq_true, Bool.or_eq_false_iff, Bool.and_eq_false_imp, decide_eq_true_eq, decide_eq_false_iff_not, beq_iff_eq, bne_iff_ne, bne_eq_false_iff_eq, ne_eq] at hp; omega)), (by first | omega | (simp only [List.length_take, List.length_drop, List.length_append, List.length_cons, List.length_nil, List.length_set, Nat.zero_add]; omega) | (simp only [cond_true, cond_false, Bool.not_eq_true', Bool.not_eq_false', Bool.and_eq_true, Bool.or_eq_true, Bool.or_eq_false_iff, Bool.and_eq_false_imp, decide_eq_true_eq, decide_eq_false_iff_not, beq_iff_eq, bne_iff_ne, bne_eq_false_iff_eq, ne_eq] at hp; omega))⟩) rfl rfl rfl rfl ?_) | (refine FA.op (O.idxV rfl rfl rfl ⟨(by first | omega | (simp only [List.length_take, List.length_drop, List.length_append, List.length_cons, List.length_nil, List.length_set, Nat.zero_add]; omega) | (simp only [cond_true, cond_false, Bool.not_eq_true', Bool.not_eq_false', Bool.and_eq_true, Bool.or_eq_true, Bool.or_eq_false_iff, Bool.and_eq_false_imp, decide_eq_true_eq, decide_eq_false_iff_not, beq_iff_eq, bne_iff_ne, bne_eq_false_iff_eq, ne_eq] at hp; omega)), (by first | omega | (simp only [List.length_take, List.length_drop, List.length_append, List.length_cons, List.length_nil, List.length_set, Nat.zero_add]; omega) | (simp only [cond_true, cond_false, Bool.not_eq_true', Bool.not_eq_false', Bool.and_eq_true, Bool.or_eq_true, Bool.or_eq_false_iff, Bool.and_eq_false_imp, decide_eq_true_eq, decide_eq_false_iff_not, beq_iff_eq, bne_iff_ne, bne_eq_false_iff_eq, ne_eq] at hp; omega))⟩) rfl rfl rfl rfl ?_)
      first | (refine FA.op (O.loadR rfl rfl (by first | rfl | assumption | exact bt_at (by assumption) (by omega) | exact bt_at (by omega) (by omega) | exact bt_at (k := 0) (by first | omega | (simp only [List.length_take, List.length_drop, List.length_append, List.length_cons, List.length_nil, List.length_set, Nat.zero_add]; omega) | (simp only [cond_true, cond_false, Bool.not_eq_true', Bool.not_eq_false', Bool.and_eq_true, Bool.or_eq_true, Bool.or_eq_false_iff, Bool.and_eq_false_imp, decide_eq_true_eq, decide_eq_false_iff_not, beq_iff_eq, bne_iff_ne, bne_eq_false_iff_eq, ne_eq] at hp; omega)) rfl | exact bt_at (k := 1) (by first | omega | (simp only [List.length_take, List.length_drop, List.length_append, List.length_cons, List.length_nil, List.length_set, Nat.zero_add]; omega) | (simp only [cond_true, cond_false, Bool.not_eq_true', Bool.not_eq_false', Bool.and_eq_true, Bool.or_eq_true, Bool.or_eq_false_iff, Bool.and_eq_false_imp, decide_eq_true_eq, decide_eq_false_iff_not, beq_iff_eq, bne_iff_ne, bne_eq_false_iff_eq, ne_eq] at hp; omega)) rfl | exact bt_at (k := 2) (by first | omega | (simp only [List.length_take, List.length_drop, List.length_append, List.length_cons, List.length_nil, List.length_set, Nat.zero_add]; omega) | (simp only [cond_true, cond_false, Bool.not_eq_true', Bool.not_eq_false', Bool.and_eq_true, Bool.or_eq_true, Bool.or_eq_false_iff, Bool.and_eq_false_imp, decide_eq_true_eq, decide_eq_false_iff_not, beq_iff_eq, bne_iff_ne, bne_eq_false_iff_eq, ne_eq] at hp; omega)) rfl | exact bt_at (k := 3) (by first | omega | (simp only [List.length_take, List.length_drop, List.length_append, List.length_cons, List.length_nil, List.length_set, Nat.zero_add]; omega) | (simp only [cond_true, cond_false, Bool.not_eq_true', Bool.not_eq_false', Bool.and_eq_true, Bool.or_eq_true, Bool.or_eq_false_iff, Bool.and_eq_false_imp, decide_eq_true_eq, decide_eq_false_iff_not, beq_iff_eq, bne_iff_ne, bne_eq_false_iff_eq, ne_eq] at hp; omega)) rfl)) rfl rfl rfl rfl ?_) | (refine FA.op (O.load rfl rfl (by repeat (first | exact List.Mem.head _ | refine List.Mem.tail _ ?_)) (by first | rfl | assumption | exact bt_at (by assumption) (by omega) | exact bt_at (by omega) (by omega) | exact bt_at (k := 0) (by first | omega | (simp only [List.length_take, List.length_drop, List.length_append, List.length_cons, List.length_nil, List.length_set, Nat.zero_add]; omega) | (simp only [cond_true, cond_false, Bool.not_eq_true', Bool.not_eq_false', Bool.and_eq_true, Bool.or_eq_true, Bool.or_eq_false_iff, Bool.and_eq_false_imp, decide_eq_true_eq, decide_eq_false_iff_not, beq_iff_eq, bne_iff_ne, bne_eq_false_iff_eq, ne_eq] at hp; omega)) rfl | exact bt_at (k := 1) (by first | omega | (simp only [List.length_take, List.length_drop, List.length_append, List.length_cons, List.length_nil, List.length_set, Nat.zero_add]; omega) | (simp only [cond_true, cond_false, Bool.not_eq_true', Bool.not_eq_false', Bool.and_eq_true, Bool.or_eq_true, Bool.or_eq_false_iff, Bool.and_eq_false_imp, decide_eq_true_eq, decide_eq_false_iff_not, beq_iff_eq, bne_iff_ne, bne_eq_false_iff_eq, ne_eq] at hp; omega)) rfl | exact bt_at (k := 2) (by first | omega | (simp only [List.length_take, List.length_drop, List.length_append, List.length_cons, List.length_nil, List.length_set, Nat.zero_add]; omega) | (simp only [cond_true, cond_false, Bool.not_eq_true', Bool.not_eq_false', Bool.and_eq_true, Bool.or_eq_true, Bool.or_eq_false_iff, Bool.and_eq_false_imp, decide_eq_true_eq, decide_eq_false_iff_not, beq_iff_eq, bne_iff_ne, bne_eq_false_iff_eq, ne_eq] at hp; omega)) rfl | exact bt_at (k := 3) (by first | omega | (simp only [List.length_take, List.length_drop, List.length_append, List.length_cons, List.length_nil, List.length_set, Nat.zero_add]; omega) | (simp only [cond_true, cond_false, Bool.not_eq_true', Bool.not_eq_false', Bool.and_eq_true, Bool.or_eq_true, Bool.or_eq_false_iff, Bool.and_eq_false_imp, decide_eq_true_eq, decide_eq_false_iff_not, beq_iff_eq, bne_iff_ne, bne_eq_false_iff_eq, ne_eq] at hp; omega)) rfl)) rfl rfl rfl rfl ?_)
      refine FA.op (O.move rfl rfl) rfl rfl rfl rfl ?_
      refine FA.op (O.move rfl rfl) rfl rfl rfl rfl ?_
      first | (refine FA.op (O.idxR rfl rfl rfl ⟨(by first | omega | (simp only [List.length_take, List.length_drop, List.length_append, List.length_cons, List.length_nil, List.length_set, Nat.zero_add]; omega) | (simp only [cond_true, cond_false, Bool.not_eq_true', Bool.not_eq_false', Bool.and_eq_true, Bool.or_eq_true, Bool.or_eq_false_iff, Bool.and_eq_false_imp, decide_eq_true_eq, decide_eq_false_iff_not, beq_iff_eq, bne_iff_ne, bne_eq_false_iff_eq, ne_eq] at hp; omega)), (by first | omega | (simp only [List.length_take, List.length_drop, List.length_append, List.length_cons, List.length_nil, List.length_set, Nat.zero_add]; omega) | (simp only [cond_true, cond_false, Bool.not_eq_true', Bool.not_eq_false', Bool.and_eq_true, Bool.or_eq_true, Bool.or_eq_false_iff, Bool.and_eq_false_imp, decide_eq_true_eq, decide_eq_false_iff_not, beq_iff_eq, bne_iff_ne, bne_eq_false_iff_eq, ne_eq] at hp; omega))⟩) rfl rfl rfl rfl ?_) | (refine FA.op (O.idxV rfl rfl rfl ⟨(by first | omega | (simp only [List.length_take, List.length_drop, List.length_append, List.length_cons, List.length_nil, List.length_set, Nat.zero_add]; omega) | (simp only [cond_true, cond_false, Bool.not_eq_true', Bool.not_eq_false', Bool.and_eq_true, Bool.or_eq_true, Bool.or_eq_false_iff, Bool.and_eq_false_imp, decide_eq_true_eq, decide_eq_false_iff_not, beq_iff_eq, bne_iff_ne, bne_eq_false_iff_eq, ne_eq] at hp; omega)), (by first | omega | (simp only [List.length_take, List.length_drop, List.length_append, List.length_cons, List.length_nil, List.length_set, Nat.zero_add]; omega) | (simp only [cond_true, cond_false, Bool.not_eq_true', Bool.not_eq_false', Bool.and_eq_true, Bool.or_eq_true, Bool.or_eq_false_iff, Bool.and_eq_false_imp, decide_eq_true_eq, decide_eq_false_iff_not, beq_iff_eq, bne_iff_ne, bne_eq_false_iff_eq, ne_eq] at hp; omega))⟩) rfl rfl rfl rfl ?_)
      first | (refine FA.op (O.loadR rfl rfl (by first | rfl | assumption | exact bt_at (by assumption) (by omega) | exact bt_at (by omega) (by omega) | exact bt_at (k := 0) (by first | omega | (simp only [List.length_take, List.length_drop, List.length_append, List.length_cons, List.length_nil, List.length_set, Nat.zero_add]; omega) | (simp only [cond_true, cond_false, Bool.not_eq_true', Bool.not_eq_false', Bool.and_eq_true, Bool.or_eq_true, Bool.or_eq_false_iff, Bool.and_eq_false_imp, decide_eq_true_eq, decide_eq_false_iff_not, beq_iff_eq, bne_iff_ne, bne_eq_false_iff_eq, ne_eq] at hp; omega)) rfl | exact bt_at (k := 1) (by first | omega | (simp only [List.length_take, List.length_drop, List.length_append, List.length_cons, List.length_nil, List.length_set, Nat.zero_add]; omega) | (simp only [cond_true, cond_false, Bool.not_eq_true', Bool.not_eq_false', Bool.and_eq_true, Bool.or_eq_true, Bool.or_eq_false_iff, Bool.and_eq_false_imp, decide_eq_true_eq, decide_eq_false_iff_not, beq_iff_eq, bne_iff_ne, bne_eq_false_iff_eq, ne_eq] at hp; omega)) rfl | exact bt_at (k := 2) (by first | omega | (simp only [List.length_take, List.length_drop, List.length_append, List.length_cons, List.length_nil, List.length_set, Nat.zero_add]; omega) | (simp only [cond_true, cond_false, Bool.not_eq_true', Bool.not_eq_false', Bool.and_eq_true, Bool.or_eq_true, Bool.or_eq_false_iff, Bool.and_eq_false_imp, decide_eq_true_eq, decide_eq_false_iff_not, beq_iff_eq, bne_iff_ne, bne_eq_false_iff_eq, ne_eq] at hp; omega)) rfl | exact bt_at (k := 3) (by first | omega | (simp only [List.length_take, List.length_drop, List.length_append, List.length_cons, List.length_nil, List.length_set, Nat.zero_add]; omega) | (simp only [cond_true, cond_false, Bool.not_eq_true', Bool.not_eq_false', Bool.and_eq_true, Bool.or_eq_true, Bool.or_eq_false_iff, Bool.and_eq_false_imp, decide_eq_true_eq, decide_eq_false_iff_not, beq_iff_eq, bne_iff_ne, bne_eq_false_iff_eq, ne_eq] at hp; omega)) rfl)) rfl rfl rfl rfl ?_) | (refine FA.op (O.load rfl rfl (by repeat (first | exact List.Mem.head _ | refine List.Mem.tail _ ?_)) (by first | rfl | assumption | exact bt_at (by assumption) (by omega) | exact bt_at (by omega) (by omega) | exact bt_at (k := 0) (by first | omega | (simp only [List.length_take, List.length_drop, List.length_append, List.length_cons, List.length_nil, List.length_set, Nat.zero_add]; omega) | (simp only [cond_true, cond_false, Bool.not_eq_true', Bool.not_eq_false', Bool.and_eq_true, Bool.or_eq_true, Bool.or_eq_false_iff, Bool.and_eq_false_imp, decide_eq_true_eq, decide_eq_false_iff_not, beq_iff_eq, bne_iff_ne, bne_eq_false_iff_eq, ne_eq] at hp; omega)) rfl | exact bt_at (k := 1) (by first | omega | (simp only [List.length_take, List.length_drop, List.length_append, List.length_cons, List.length_nil, List.length_set, Nat.zero_add]; omega) | (simp only [cond_true, cond_false, Bool.not_eq_true', Bool.not_eq_false', Bool.and_eq_true, Bool.or_eq_true, Bool.or_eq_false_iff, Bool.and_eq_false_imp, decide_eq_true_eq, decide_eq_false_iff_not, beq_iff_eq, bne_iff_ne, bne_eq_false_iff_eq, ne_eq] at hp; omega)) rfl | exact bt_at (k := 2) (by first | omega | (simp only [List.length_take, List.length_drop, List.length_append, List.length_cons, List.length_nil, List.length_set, Nat.zero_add]; omega) | (simp only [cond_true, cond_false, Bool.not_eq_true', Bool.not_eq_false', Bool.and_eq_true, Bool.or_eq_true, Bool.or_eq_false_iff, Bool.and_eq_false_imp, decide_eq_true_eq, decide_eq_false_iff_not, beq_iff_eq, bne_iff_ne, bne_eq_false_iff_eq, ne_eq] at hp; omega)) rfl | exact bt_at (k := 3) (by first | omega | (simp only [List.length_take, List.length_drop, List.length_append, List.length_cons, List.length_nil, List.length_set, Nat.zero_add]; omega) | (simp only [cond_true, cond_false, Bool.not_eq_true', Bool.not_eq_false', Bool.and_eq_true, Bool.or_eq_true, Bool.or_eq_false_iff, Bool.and_eq_false_imp, decide_eq_true_eq, decide_eq_false_iff_not, beq_iff_eq, bne_iff_ne, bne_eq_false_iff_eq, ne_eq] at hp; omega)) rfl)) rfl rfl rfl rfl ?_)
      refine FA.op (O.lss rfl rfl rfl (by first | exact bTrue (by omega) | exact bFalse (by omega) | assumption | rfl)) rfl rfl rfl rfl ?_
      refine FA.nil ?_
      simp only [chosen, List.nil_append, List.cons_append, List.append_nil]
      refine AO.nil ?_
      refine AQ.thenN ?_
      refine AW.split rfl (fun h6 => ?_) (fun h6 => ?_) <;> (try simp only [decide_eq_true_eq, decide_eq_false_iff_not, beq_iff_eq, beq_eq_false_iff_ne, bne_iff_ne, bne_eq_false_iff_eq, Bool.not_eq_true', Bool.not_eq_false', Bool.not_eq_true, Bool.not_eq_false, ne_eq, Int.not_lt, Int.not_le, Bool.and_eq_true, Bool.or_eq_true, Bool.or_eq_false_iff, Bool.and_eq_false_imp, strOf_toList, Decidable.not_not] at h6)
      · skip
        rw [if_pos (by omega)] at hc
        refine AW.seq ?_
        refine AW.region ?_
        refine AO.op (O.assign rfl rfl) rfl rfl rfl ?_
        refine AO.nil ?_
        refine AQ.thenN ?_
        refine AW.ret ?_
        refine AQ.thenR ?_
        refine AQ.blockR ?_
        refine AQ.thenR ?_
        refine AQ.loopR ?_
        refine AQ.blockR ?_
        refine AQ.thenR ?_
        refine AQ.ret1 rfl rfl ⟨_, List.nil_sublist _, .nil⟩ (⟨congrArg (fun z => AV.val (.int .i64 z)) hc.symm, rfl⟩)
      · skip
        rw [if_neg (by omega)] at hc
        refine AW.skip ?_
        refine AQ.thenN ?_
        refine AW.seq ?_
        refine AW.region ?_
        refine AO.op (O.assign rfl rfl) rfl rfl rfl ?_
        refine AO.nil ?_
        refine AQ.thenN ?_
        refine AW.ret ?_
        refine AQ.blockR ?_
        refine AQ.thenR ?_
        refine AQ.loopR ?_
        refine AQ.blockR ?_
        refine AQ.thenR ?_
        refine AQ.ret1 rfl rfl ⟨_, List.nil_sublist _, .nil⟩ (⟨congrArg (fun z => AV.val (.int .i64 z)) hc.symm, rfl⟩)
    · skip
      rw [if_pos (u8_eq.1 h5)] at hc
      refine AW.skip ?_
      refine AQ.blockN ?_
      refine AQ.thenN ?_
      refine AW.region ?_
      refine AO.op (O.move rfl rfl) rfl rfl rfl ?_
      refine AO.op (O.add rfl rfl rfl (by first | exact wI64 (by omega) | rfl)) rfl rfl rfl ?_
      refine AO.op (O.assign rfl rfl) rfl rfl rfl ?_
      refine AO.nil ?_
      refine AQ.loopKN _ _ _ (by omega) (⟨k + 1, by omega, by omega, hc, rfl, rfl, rfl⟩) (by repeat (first | exact envNil | refine envCons rfl ?_)) (by repeat (first | exact envNil | refine envCons rfl ?_)) (by repeat (first | exact subPnil | refine subPcons 0 rfl ?_ | refine subPcons 1 rfl ?_ | refine subPcons 2 rfl ?_ | refine subPcons 3 rfl ?_ | refine subPcons 4 rfl ?_ | refine subPcons 5 rfl ?_ | refine subPcons 6 rfl ?_ | refine subPcons 7 rfl ?_))
  · skip
    rw [cmpB_end h1 h2 (fun _ => by omega)] at hc
    refine AW.exit ?_
    refine AQ.thenX ?_
    refine AQ.loopX ?_
    refine AQ.blockX rfl ?_
    refine AQ.thenN ?_
    refine AW.seq ?_
    refine AW.block ?_
    refine AW.seq ?_
    refine AW.region ?_
    refine AO.op (O.move rfl rfl) rfl rfl rfl ?_
    first | (refine AO.op (O.lenR rfl rfl) rfl rfl rfl ?_) | (refine AO.op (O.lenV rfl rfl) rfl rfl rfl ?_) | (refine AO.op (O.lenRow rfl rfl (by repeat (first | exact List.Mem.head _ | refine List.Mem.tail _ ?_))) rfl rfl rfl ?_) | (refine AO.op (O.lenS rfl rfl) rfl rfl rfl ?_)
    refine AO.op (O.move rfl rfl) rfl rfl rfl ?_
    first | (refine AO.op (O.lenR rfl rfl) rfl rfl rfl ?_) | (refine AO.op (O.lenV rfl rfl) rfl rfl rfl ?_) | (refine AO.op (O.lenRow rfl rfl (by repeat (first | exact List.Mem.head _ | refine List.Mem.tail _ ?_))) rfl rfl rfl ?_) | (refine AO.op (O.lenS rfl rfl) rfl rfl rfl ?_)
    refine AO.op (O.lss rfl rfl rfl (by first | exact bTrue (by omega) | exact bFalse (by omega) | assumption | rfl)) rfl rfl rfl ?_
    refine AO.op (O.assign rfl rfl) rfl rfl rfl ?_
    refine AO.nil ?_
    refine AQ.thenN ?_
    refine AW.split rfl (fun h5 => ?_) (fun h5 => ?_) <;> (try simp only [decide_eq_true_eq, decide_eq_false_iff_not, beq_iff_eq, beq_eq_false_iff_ne, bne_iff_ne, bne_eq_false_iff_eq, Bool.not_eq_true', Bool.not_eq_false', Bool.not_eq_true, Bool.not_eq_false, ne_eq, Int.not_lt, Int.not_le, Bool.and_eq_true, Bool.or_eq_true, Bool.or_eq_false_iff, Bool.and_eq_false_imp, strOf_toList, Decidable.not_not] at h5)
    · skip
      rw [if_pos (by omega)] at hc
      refine AW.seq ?_
      refine AW.region ?_
      refine AO.op (O.assign rfl rfl) rfl rfl rfl ?_
      refine AO.nil ?_
      refine AQ.thenN ?_
      refine AW.ret ?_
      refine AQ.blockR ?_
      refine AQ.thenR ?_
      refine AQ.ret1 rfl rfl ⟨_, List.nil_sublist _, .nil⟩ (⟨congrArg (fun z => AV.val (.int .i64 z)) hc.symm, rfl⟩)
    · skip
      rw [if_neg (by omega)] at hc
      refine AW.seq ?_
      refine AW.region ?_
      refine AO.op (O.move rfl rfl) rfl rfl rfl ?_
      first | (refine AO.op (O.lenR rfl rfl) rfl rfl rfl ?_) | (refine AO.op (O.lenV rfl rfl) rfl rfl rfl ?_) | (refine AO.op (O.lenRow rfl rfl (by repeat (first | exact List.Mem.head _ | refine List.Mem.tail _ ?_))) rfl rfl rfl ?_) | (refine AO.op (O.lenS rfl rfl) rfl rfl rfl ?_)
      refine AO.op (O.move rfl rfl) rfl rfl rfl ?_
      first | (refine AO.op (O.lenR rfl rfl) rfl rfl rfl ?_) | (refine AO.op (O.lenV rfl rfl) rfl rfl rfl ?_) | (refine AO.op (O.lenRow rfl rfl (by repeat (first | exact List.Mem.head _ | refine List.Mem.tail _ ?_))) rfl rfl rfl ?_) | (refine AO.op (O.lenS rfl rfl) rfl rfl rfl ?_)
      refine AO.op (O.gtr rfl rfl rfl (by first | exact bTrue (by omega) | exact bFalse (by omega) | assumption | rfl)) rfl rfl rfl ?_
      refine AO.op (O.assign rfl rfl) rfl rfl rfl ?_
      refine AO.nil ?_
      refine AQ.thenN ?_
      refine AW.split rfl (fun h6 => ?_) (fun h6 => ?_) <;> (try simp only [decide_eq_true_eq, decide_eq_false_iff_not, beq_iff_eq, beq_eq_false_iff_ne, bne_iff_ne, bne_eq_false_iff_eq, Bool.not_eq_true', Bool.not_eq_false', Bool.not_eq_true, Bool.not_eq_false, ne_eq, Int.not_lt, Int.not_le, Bool.and_eq_true, Bool.or_eq_true, Bool.or_eq_false_iff, Bool.and_eq_false_imp, strOf_toList, Decidable.not_not] at h6)
      · skip
        rw [if_pos (by omega)] at hc
        refine AW.seq ?_
        refine AW.region ?_
        refine AO.op (O.assign rfl rfl) rfl rfl rfl ?_
        refine AO.nil ?_
        refine AQ.thenN ?_
        refine AW.ret ?_
        refine AQ.blockR ?_
        refine AQ.thenR ?_
        refine AQ.ret1 rfl rfl ⟨_, List.nil_sublist _, .nil⟩ (⟨congrArg (fun z => AV.val (.int .i64 z)) hc.symm, rfl⟩)
      · skip
        rw [if_neg (by omega)] at hc
        refine AW.skip ?_
        refine AQ.blockN ?_
        refine AQ.thenN ?_
        refine AW.seq ?_
        refine AW.region ?_
        refine AO.op (O.assign rfl rfl) rfl rfl rfl ?_
        refine AO.nil ?_
        refine AQ.thenN ?_
        refine AW.ret ?_
        refine AQ.ret1 rfl rfl ⟨_, List.nil_sublist _, .nil⟩ (⟨congrArg (fun z => AV.val (.int .i64 z)) hc.symm, rfl⟩)

theorem equal26_fn (a b : List UInt8) : Sp Try.prog 18 [roB a, roB b] [] (Is (.val (.bool (a == b)))) := by
  refine Sp.enter Try.func18 rfl _ Try.ntmps18 rfl (fun w0 R0 => ?_)
  refine AW.seq ?_
  refine AW.region ?_
  refine AO.op (O.assign rfl rfl) rfl rfl rfl ?_
  refine AO.nil ?_
  refine AQ.thenN ?_
  refine AW.seq ?_
  refine AW.region ?_
  refine AO.op (O.move rfl rfl) rfl rfl rfl ?_
  refine AO.op (O.move rfl rfl) rfl rfl rfl ?_
  first | (refine AO.op (O.call rfl Try.func31 rfl rfl rfl (compare_fn _ _)) rfl rfl rfl ?_) | (refine AO.op (O.callC rfl Try.func31 rfl rfl rfl (compare_fn _ _) (by repeat (first | exact CoeL.nil | refine CoeL.cons Coe.rfl ?_ | refine CoeL.cons Coe.nil ?_ | refine CoeL.cons Coe.unfull ?_ | refine CoeL.cons (Coe.agg ?_) ?_ | refine CoeL.cons (Coe.tup ?_) ?_))) rfl rfl rfl ?_) | (refine AO.op (O.callL rfl Try.func31 rfl rfl rfl (by repeat (first | exact List.Mem.head _ | refine List.Mem.tail _ ?_)) (compare_fn _ _) (by repeat (first | exact LendL.nil | refine LendL.same ?_ | refine LendL.lend ?_))) rfl rfl rfl ?_)
  refine AO.op (O.eql rfl rfl rfl (by first | exact beq_iff_eq.2 (by omega) | exact beq_eq_false_iff_ne.2 (by omega) | assumption | rfl)) rfl rfl rfl ?_
  refine AO.op (O.move rfl rfl) rfl rfl rfl ?_
  first | (refine AO.opG rfl rfl rfl (fun hp => O.move rfl rfl) ?_) | (refine AO.op (O.move rfl rfl) rfl rfl rfl ?_) | (refine AO.no rfl rfl rfl ?_)
  first | (refine AO.opG rfl rfl rfl (fun hp => OpW.force 10 rfl (by first | exact hp | simp_all) (O.lenR rfl rfl)) ?_) | (refine AO.opG rfl rfl rfl (fun hp => OpW.force 10 rfl (by first | exact hp | simp_all) (O.lenV rfl rfl)) ?_) | (refine AO.opG rfl rfl rfl (fun hp => OpW.force 10 rfl (by first | exact hp | simp_all) (O.lenRow rfl rfl (by repeat (first | exact List.Mem.head _ | refine List.Mem.tail _ ?_)))) ?_) | (refine AO.opG rfl rfl rfl (fun hp => OpW.force 10 rfl (by first | exact hp | simp_all) (O.lenS rfl rfl)) ?_) | (refine AO.op (O.lenR rfl rfl) rfl rfl rfl ?_) | (refine AO.op (O.lenV rfl rfl) rfl rfl rfl ?_) | (refine AO.op (O.lenRow rfl rfl (by repeat (first | exact List.Mem.head _ | refine List.Mem.tail _ ?_))) rfl rfl rfl ?_) | (refine AO.op (O.lenS rfl rfl) rfl rfl rfl ?_) | (refine AO.no rfl rfl rfl ?_)
  first | (refine AO.opG rfl rfl rfl (fun hp => O.move rfl rfl) ?_) | (refine AO.op (O.move rfl rfl) rfl rfl rfl ?_) | (refine AO.no rfl rfl rfl ?_)
  first | (refine AO.opG rfl rfl rfl (fun hp => OpW.force 12 rfl (by first | exact hp | simp_all) (O.lenR rfl rfl)) ?_) | (refine AO.opG rfl rfl rfl (fun hp => OpW.force 12 rfl (by first | exact hp | simp_all) (O.lenV rfl rfl)) ?_) | (refine AO.opG rfl rfl rfl (fun hp => OpW.force 12 rfl (by first | exact hp | simp_all) (O.lenRow rfl rfl (by repeat (first | exact List.Mem.head _ | refine List.Mem.tail _ ?_)))) ?_) | (refine AO.opG rfl rfl rfl (fun hp => OpW.force 12 rfl (by first | exact hp | simp_all) (O.lenS rfl rfl)) ?_) | (refine AO.op (O.lenR rfl rfl) rfl rfl rfl ?_) | (refine AO.op (O.lenV rfl rfl) rfl rfl rfl ?_) | (refine AO.op (O.lenRow rfl rfl (by repeat (first | exact List.Mem.head _ | refine List.Mem.tail _ ?_))) rfl rfl rfl ?_) | (refine AO.op (O.lenS rfl rfl) rfl rfl rfl ?_) | (refine AO.no rfl rfl rfl ?_)
  first | (refine AO.opG rfl rfl rfl (fun hp => OpW.force 11 rfl (by first | exact hp | simp_all) (OpW.force 13 rfl (by first | exact hp | simp_all) (O.eql rfl rfl rfl (by first | exact beq_iff_eq.2 (by omega) | exact beq_eq_false_iff_ne.2 (by omega) | assumption | rfl)))) ?_) | (refine AO.op (O.eql rfl rfl rfl (by first | exact beq_iff_eq.2 (by omega) | exact beq_eq_false_iff_ne.2 (by omega) | assumption | rfl)) rfl rfl rfl ?_) | (refine AO.no rfl rfl rfl ?_)
  first | (refine AO.op (O.pickAnd rfl rfl rfl rfl (fun h => by first | exact h | simp_all)) rfl rfl rfl ?_) | (refine AO.op (O.pickF rfl rfl rfl) rfl rfl rfl ?_) | (refine AO.op (O.pickT rfl rfl rfl) rfl rfl rfl ?_)
  refine AO.op (O.assign rfl rfl) rfl rfl rfl ?_
  refine AO.nil ?_
  refine AQ.thenN ?_
  refine AW.ret ?_
  have e : ((cmpB a b == 0) && ((a.length : Int) == (b.length : Int))) = (a == b) := by
    rw [Bool.eq_iff_iff]
    simp only [Bool.and_eq_true, beq_iff_eq, cmpB_zero]
    constructor
    · exact fun h => h.1
    · rintro rfl; exact ⟨rfl, rfl⟩
  refine AQ.ret1 rfl rfl ⟨_, List.nil_sublist _, .nil⟩ (⟨congrArg (fun z => AV.val (.bool z)) e, rfl⟩)

theorem copy26_fn (l : List UInt8) (hl : l.length ≤ 4294967296) : Sp Try.prog 29 [roB l] [] (Is (roB l)) := by
  refine Sp.enter Try.func29 rfl _ Try.ntmps29 rfl (fun w0 R0 => ?_)
  refine AW.seq ?_
  refine AW.region ?_
  refine AO.op (O.assign rfl rfl) rfl rfl rfl ?_
  refine AO.nil ?_
  refine AQ.thenN ?_
  refine AW.seq ?_
  refine AW.region ?_
  refine AO.op (O.move rfl rfl) rfl rfl rfl ?_
  refine AO.opRow (O.appendNil rfl (by rfl) (by rfl) rfl rfl (by first | exact SrcA.nil TyD.ax | exact SrcA.ro TyD.ax (by first | rfl | assumption | (simp; done) | (simp; omega)) (Nat.le_of_ble_eq_true rfl) | exact SrcA.blk TyD.ax (by repeat (first | exact List.Mem.head _ | refine List.Mem.tail _ ?_)) (by first | (dsimp only [List.set, List.append, List.cons_append, List.nil_append, splice, ofConst, AV.cells, List.map, List.map_cons, List.map_nil, List.take, List.drop, Nat.zero_add, Nat.add_zero, Nat.reduceAdd, Nat.reduceMul, Nat.zero_mul, Value.cells, List.toList_toArray, zerosA, List.replicate, List.flatten, List.append_nil]; rfl) | (dsimp only [List.set, List.append, List.cons_append, List.nil_append, splice, ofConst, AV.cells, List.map, List.map_cons, List.map_nil, List.take, List.drop, Nat.zero_add, Nat.add_zero, Nat.reduceAdd, Nat.reduceMul, Nat.zero_mul, Value.cells, List.toList_toArray, zerosA, List.replicate, List.flatten, List.append_nil]; done) | rfl) (by first | rfl | (simp; done) | (simp; omega)) | exact SrcA.row TyD.ax (by repeat (first | exact List.Mem.head _ | refine List.Mem.tail _ ?_)) (by first | rfl | (simp; done) | (simp; omega))) (by first | rfl | assumption | (simp [AV.cells, AV.one, *]; done) | simp [AV.cells, AV.one, Value.oneCell', *]) (by first | (unfold maxLen; omega) | (unfold maxLen; simp only [List.length_take, List.length_drop, List.length_append, List.length_cons, List.length_nil, List.length_set, Nat.zero_add]; omega)) (by first | omega | (simp only [List.length_take, List.length_drop, List.length_append, List.length_cons, List.length_nil, List.length_set, Nat.zero_add]; omega))) rfl rfl rfl ?_
  intro V hV
  refine AO.op (O.assign rfl rfl) rfl rfl rfl ?_
  refine AO.nil ?_
  refine AQ.thenN ?_
  refine AW.ret ?_
  refine AQ.g ?_
  first | (refine G.freezeRow 0 rfl [2] (by repeat (first | exact frNil | refine frCons rfl ?_)) ?_) | (refine G.freezeRow 1 rfl [2] (by repeat (first | exact frNil | refine frCons rfl ?_)) ?_) | (refine G.freezeRow 2 rfl [2] (by repeat (first | exact frNil | refine frCons rfl ?_)) ?_) | (refine G.freezeRow 3 rfl [2] (by repeat (first | exact frNil | refine frCons rfl ?_)) ?_) | (refine G.freezeRow 4 rfl [2] (by repeat (first | exact frNil | refine frCons rfl ?_)) ?_)
  refine AQ.u ?_
  dsimp only [List.map, List.eraseIdx, List.cons_append, List.nil_append]
  refine AQ.ret1 rfl rfl ⟨_, List.nil_sublist _, .nil⟩ (⟨roB_of (by simp) (by simp), rfl⟩)

/-- A number's bytes, the first not 0 unless it is the only one. -/
def beGo (n : Nat) (out : List UInt8) : List UInt8 := if h : n = 0 then out else beGo (n / 256) (u8 (n : Int) :: out)
termination_by n
decreasing_by omega
def pivB (n : Int) : List UInt8 := if n < 0 ∨ 1099511627775 < n then [] else beGo (n.toNat / 256) [u8 n]
theorem beGo_zero (out : List UInt8) : beGo 0 out = out := by unfold beGo; simp
theorem beGo_pos {n : Nat} (h : n ≠ 0) (out : List UInt8) : beGo n out = beGo (n / 256) (u8 (n : Int) :: out) := by rw [beGo, dif_neg h]
theorem beGo_len : ∀ (k n : Nat) (out : List UInt8), n < 256 ^ k → (beGo n out).length ≤ out.length + k
  | 0, n, out, h => by
    obtain rfl : n = 0 := by simpa using h
    rw [beGo_zero]; simp
  | k + 1, n, out, h => by
    by_cases h0 : n = 0
    · subst h0; rw [beGo_zero]; simp
    · rw [beGo_pos h0]
      have := beGo_len k (n / 256) (u8 (n : Int) :: out) (by rw [Nat.pow_succ] at h; omega)
      simp at this ⊢; omega
theorem pivB_len (n : Int) : (pivB n).length ≤ 5 := by
  unfold pivB
  split
  · simp
  · have := beGo_len 4 (n.toNat / 256) [u8 n] (by omega)
    simpa using this

/-- The same from the front: what is there behind the bytes of number 4, 3 .. -/
def rStep (n : Int) (s : Nat) (out : List UInt8) : List UInt8 := if 0 < out.length ∨ (u8 (n / 256 ^ s) ≠ 0) ∨ s = 0 then out ++ [u8 (n / 256 ^ s)] else out
def rGo (n : Int) : Nat → List UInt8
  | 0 => []
  | k + 1 => rStep n (4 - k) (rGo n k)
theorem u8_zero_iff (x : Int) : u8 x = 0 ↔ x % 256 = 0 := by
  constructor
  · intro h
    have := u8_toNat x
    rw [h] at this
    simpa using this.symm
  · intro h; unfold u8; rw [h]; rfl
theorem rGo_piv {n : Int} (h0 : 0 ≤ n) (h1 : n ≤ 1099511627775) : rGo n 5 = pivB n := by
  obtain ⟨m, rfl⟩ : ∃ m : Nat, n = (m : Int) := ⟨n.toNat, by omega⟩
  have nz : ∀ x : Int, x % 256 ≠ 0 → ¬ u8 x = 0 := fun x h e => h ((u8_zero_iff x).1 e)
  have yz : ∀ x : Int, x % 256 = 0 → u8 x = 0 := fun x h => (u8_zero_iff x).2 h
  have q : (m : Int) / 256 ^ 0 = (m : Int) := by simp
  have s1 : ((m / 256 : Nat) : Int) = (m : Int) / 256 := by omega
  have s2 : ((m / 65536 : Nat) : Int) = (m : Int) / 65536 := by omega
  have s3 : ((m / 16777216 : Nat) : Int) = (m : Int) / 16777216 := by omega
  have s4 : ((m / 4294967296 : Nat) : Int) = (m : Int) / 4294967296 := by omega
  unfold pivB
  rw [if_neg (by omega)]
  simp only [rGo, rStep, Nat.reduceSub, Int.reducePow, Int.toNat_natCast, q]
  by_cases a4 : m / 4294967296 = 0
  · have e4 := yz ((m : Int) / 4294967296) (by omega)
    by_cases a3 : m / 16777216 = 0
    · have e3 := yz ((m : Int) / 16777216) (by omega)
      by_cases a2 : m / 65536 = 0
      · have e2 := yz ((m : Int) / 65536) (by omega)
        by_cases a1 : m / 256 = 0
        · have e1 := yz ((m : Int) / 256) (by omega)
          rw [a1, beGo_zero]
          simp [e4, e3, e2, e1]
        · have e1 := nz ((m : Int) / 256) (by omega)
          rw [beGo_pos a1, show m / 256 / 256 = 0 by omega, beGo_zero, s1]
          simp [e4, e3, e2, e1]
      · have e2 := nz ((m : Int) / 65536) (by omega)
        rw [beGo_pos (by omega), beGo_pos (by omega), show m / 256 / 256 / 256 = 0 by omega, beGo_zero, show m / 256 / 256 = m / 65536 by omega, s1, s2]
        simp [e4, e3, e2]
    · have e3 := nz ((m : Int) / 16777216) (by omega)
      rw [beGo_pos (by omega), beGo_pos (by omega), beGo_pos (by omega), show m / 256 / 256 / 256 / 256 = 0 by omega, beGo_zero, show m / 256 / 256 / 256 = m / 16777216 by omega, show m / 256 / 256 = m / 65536 by omega, s1, s2, s3]
      simp [e4, e3]
  · have e4 := nz ((m : Int) / 4294967296) (by omega)
    rw [beGo_pos (by omega), beGo_pos (by omega), beGo_pos (by omega), beGo_pos (by omega), show m / 256 / 256 / 256 / 256 / 256 = 0 by omega, beGo_zero, show m / 256 / 256 / 256 / 256 = m / 4294967296 by omega, show m / 256 / 256 / 256 = m / 16777216 by omega, show m / 256 / 256 = m / 65536 by omega, s1, s2, s3, s4]
    simp [e4]
theorem rGo_len (n : Int) : ∀ k, (rGo n k).length ≤ k
  | 0 => Nat.le_refl _
  | k + 1 => by
    have := rGo_len n k
    unfold rGo rStep
    split
    · simp; omega
    · omega
end Go.Proofs.Ytbkclbbhdeohfaa.By
