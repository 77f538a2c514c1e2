/-
  NotifyLists, the statement: for every input the law returns true, and its arguments read as before. No condition.
-/
import Derived.ChangeSame
import Derived.JoinedOf
import Derived.JoinedAt
import Derived.RowKit3
import Derived.ReadAgain
import Derived.Deep.Slices
import Derived.ChangeSlices
import Derived.Test.YtjgmedmakbjkdaaZ2
namespace Go.Proofs.Ytjgmedmakbjkdaa.By
open Go.RowKit L A
set_option linter.unusedVariables false
set_option linter.unusedSimpArgs false
attribute [local irreducible] AW AQ AO
theorem getObS {os : List Obs} {k : Nat} (h : k < os.length) {j : Nat} (hj : j = k * 6 + 2) : ((obsA os).drop j).take 3 = [roB (obat os k).ctx, roB (obat os k).kid, .val (.int .i64 (obat os k).piv)] := by
  subst hj
  rw [← List.drop_drop, show (3 : Nat) = min 3 (6 - 2) by decide, ← List.take_take, ← List.drop_take, getOb h rfl]; rfl
theorem samebind_fn (x y : List UInt8) (n : Int) : Sp Try.prog 33 [.agg [roB x, roB y, .val (.int .i64 n)], .agg [roB x, roB y, .val (.int .i64 n)]] [] (Is (.val (.bool true))) := by
  refine Sp.enter Try.func33 rfl _ Try.ntmps33 rfl (fun w0 R0 => ?_)
  refine AW.seq ?_
  refine AW.region ?_
  refine AO.opB (O.box rfl rfl rfl rfl rfl) rfl rfl rfl ?_
  intro B1
  refine AO.opB (O.box rfl rfl rfl rfl rfl) rfl rfl rfl ?_
  intro B2
  refine AO.op (O.assign rfl rfl) rfl rfl rfl ?_
  refine AO.nil ?_
  refine AQ.thenN ?_
  refine AW.seq ?_
  refine AW.region ?_
  refine AO.op (O.fieldAddr rfl rfl) rfl rfl rfl ?_
  refine AO.op (O.load rfl rfl (by repeat (first | exact List.Mem.head _ | refine List.Mem.tail _ ?_)) (by rfl)) rfl rfl rfl ?_
  refine AO.op (O.fieldAddr rfl rfl) rfl rfl rfl ?_
  refine AO.op (O.load rfl rfl (by repeat (exact List.Mem.head _)) (by rfl)) rfl rfl rfl ?_
  refine AO.op (O.call rfl Try.func32 rfl rfl rfl (equal26_fn _ _)) rfl rfl rfl ?_
  refine AO.op (O.move rfl rfl) rfl rfl rfl ?_
  refine AO.opG rfl rfl rfl (fun hp => O.fieldAddr rfl rfl) ?_
  refine AO.opG rfl rfl rfl (fun hp => OpW.force 11 rfl (by exact hp) (O.load rfl rfl (by repeat (first | exact List.Mem.head _ | refine List.Mem.tail _ ?_)) (by rfl))) ?_
  refine AO.opG rfl rfl rfl (fun hp => O.fieldAddr rfl rfl) ?_
  refine AO.opG rfl rfl rfl (fun hp => OpW.force 13 rfl (by exact hp) (O.load rfl rfl (by repeat (exact List.Mem.head _)) (by rfl))) ?_
  refine AO.opG rfl rfl rfl (fun hp => OpW.force 12 rfl (by exact hp) (OpW.force 14 rfl (by exact hp) (O.call rfl Try.func32 rfl rfl rfl (equal26_fn _ _)))) ?_
  refine AO.op (O.pickAnd rfl rfl rfl rfl (fun h => by exact h)) rfl rfl rfl ?_
  refine AO.op (O.move rfl rfl) rfl rfl rfl ?_
  refine AO.opG rfl rfl rfl (fun hp => O.fieldAddr rfl rfl) ?_
  refine AO.opG rfl rfl rfl (fun hp => OpW.force 18 rfl (by exact hp) (O.load rfl rfl (by repeat (first | exact List.Mem.head _ | refine List.Mem.tail _ ?_)) (by rfl))) ?_
  refine AO.opG rfl rfl rfl (fun hp => O.fieldAddr rfl rfl) ?_
  refine AO.opG rfl rfl rfl (fun hp => OpW.force 20 rfl (by exact hp) (O.load rfl rfl (by repeat (exact List.Mem.head _)) (by rfl))) ?_
  refine AO.opG rfl rfl rfl (fun hp => OpW.force 19 rfl (by exact hp) (OpW.force 21 rfl (by exact hp) (O.eql rfl rfl rfl (by exact beq_iff_eq.2 (by omega))))) ?_
  refine AO.op (O.pickAnd rfl rfl rfl rfl (fun h => by exact h)) rfl rfl rfl ?_
  refine AO.op (O.assign rfl rfl) rfl rfl rfl ?_
  refine AO.nil ?_
  refine AQ.thenN ?_
  refine AW.ret ?_
  refine AQ.ret1 rfl rfl ⟨_, List.nil_sublist _, .nil⟩ (⟨by simp, rfl⟩)
set_option maxHeartbeats 4000000 in
theorem sameobs_fn (os : List Obs) (hlen : os.length ≤ 1000000) : Sp Try.prog 13 [roOb os, roOb os] [] (Is (.val (.bool true))) := by
  refine Sp.enter Try.func13 rfl _ Try.ntmps13 rfl (fun w0 R0 => ?_)
  refine AW.seq ?_
  refine AW.region ?_
  refine AO.op (O.assign rfl rfl) rfl rfl rfl ?_
  refine AO.nil ?_
  refine AQ.thenN ?_
  refine AW.seq ?_
  refine AW.seq ?_
  refine AW.region ?_
  refine AO.op (O.move rfl rfl) rfl rfl rfl ?_
  refine AO.op (O.lenR rfl rfl) rfl rfl rfl ?_
  refine AO.op (O.move rfl rfl) rfl rfl rfl ?_
  refine AO.op (O.lenR rfl rfl) rfl rfl rfl ?_
  refine AO.op (O.neq rfl rfl rfl (by exact bne_eq_false_iff_eq.2 (by omega))) rfl rfl rfl ?_
  refine AO.nil ?_
  refine AQ.thenN ?_
  refine AW.split rfl (fun h => ?_) (fun h => ?_) <;> (try simp only [decide_eq_true_eq, decide_eq_false_iff_not, beq_iff_eq, beq_eq_false_iff_ne, bne_iff_ne, bne_eq_false_iff_eq, Bool.not_eq_true', Bool.not_eq_false', Bool.not_eq_true, Bool.not_eq_false, ne_eq, Int.not_lt, Int.not_le, Bool.and_eq_true, Bool.or_eq_true, Bool.or_eq_false_iff, Bool.and_eq_false_imp, strOf_toList, Decidable.not_not] at h)
  · skip
    exact absurd h (by simp)
  · skip
    refine AW.skip ?_
    refine AQ.thenN ?_
    refine AW.seq ?_
    refine AW.seq ?_
    refine AW.region ?_
    refine AO.op (O.move rfl rfl) rfl rfl rfl ?_
    refine AO.op (O.lenR rfl rfl) rfl rfl rfl ?_
    refine AO.op (O.move rfl rfl) rfl rfl rfl ?_
    refine AO.nil ?_
    refine AQ.thenN ?_
    refine AW.block ?_
    refine AW.loopK [(0, _), (1, _), (12, _)] (fun nn E H => ∃ (k : Nat), (k ≤ os.length) ∧ nn = os.length - k ∧ E = [(13, .val (.int .i64 (k : Int)))] ∧ H = []) _ (⟨0, by omega, rfl, rfl, rfl⟩) (by repeat (first | exact envNil | refine envCons rfl ?_)) (by repeat (first | exact envNil | refine envCons rfl ?_)) (by repeat (exact subPnil)) ?_
    rintro nn E H ⟨k, hk1, rfl, rfl, rfl⟩
    dsimp only [List.cons_append, List.nil_append]
    refine AW.seq ?_
    refine AW.region ?_
    refine AO.op (O.lss rfl rfl rfl (by rfl)) rfl rfl rfl ?_
    refine AO.nil ?_
    refine AQ.thenN ?_
    refine AW.seq ?_
    refine AW.split rfl (fun hlt => ?_) (fun hlt => ?_) <;> (try simp only [decide_eq_true_eq, decide_eq_false_iff_not, beq_iff_eq, beq_eq_false_iff_ne, bne_iff_ne, bne_eq_false_iff_eq, Bool.not_eq_true', Bool.not_eq_false', Bool.not_eq_true, Bool.not_eq_false, ne_eq, Int.not_lt, Int.not_le, Bool.and_eq_true, Bool.or_eq_true, Bool.or_eq_false_iff, Bool.and_eq_false_imp, strOf_toList, Decidable.not_not] at hlt)
    · skip
      have hkk : k < os.length := by omega
      refine AW.skip ?_
      refine AQ.thenN ?_
      refine AW.seq ?_
      refine AW.block ?_
      refine AW.seq ?_
      refine AW.region ?_
      refine AO.op (O.move rfl rfl) rfl rfl rfl ?_
      refine AO.op (O.assign rfl rfl) rfl rfl rfl ?_
      refine AO.nil ?_
      refine AQ.thenN ?_
      refine AW.seq ?_
      refine AW.regionD 52 (by kernel_rfl) (by kernel_rfl) ?_
      simp only [List.take_succ_cons, List.take_zero, List.drop_succ_cons, List.drop_zero]
      refine FA.op (O.move rfl rfl) rfl rfl rfl rfl ?_
      refine FA.op (O.move rfl rfl) rfl rfl rfl rfl ?_
      refine FA.op (O.idxR rfl rfl rfl ⟨(by omega), (by omega)⟩) rfl rfl rfl rfl ?_
      refine FA.op (O.fieldAddrR rfl rfl) rfl rfl rfl rfl ?_
      refine FA.op (O.loadR rfl rfl (by exact getObC (k := k) (c := 0) hkk (by omega) (by omega))) rfl rfl rfl rfl ?_
      refine FA.op (O.move rfl rfl) rfl rfl rfl rfl ?_
      refine FA.op (O.move rfl rfl) rfl rfl rfl rfl ?_
      refine FA.op (O.idxR rfl rfl rfl ⟨(by omega), (by omega)⟩) rfl rfl rfl rfl ?_
      refine FA.op (O.fieldAddrR rfl rfl) rfl rfl rfl rfl ?_
      refine FA.op (O.loadR rfl rfl (by exact getObC (k := k) (c := 0) hkk (by omega) (by omega))) rfl rfl rfl rfl ?_
      refine FA.op (O.neq rfl rfl rfl (by exact bne_eq_false_iff_eq.2 (by omega))) rfl rfl rfl rfl ?_
      refine FA.op (O.move rfl rfl) rfl rfl rfl rfl ?_
      refine FA.opG rfl rfl rfl rfl (fun hp => O.move rfl rfl) ?_
      refine FA.opG rfl rfl rfl rfl (fun hp => O.move rfl rfl) ?_
      refine FA.opG rfl rfl rfl rfl (fun hp => OpW.force 28 rfl (by exact hp) (OpW.force 29 rfl (by exact hp) (O.idxR rfl rfl rfl ⟨(by omega), (by omega)⟩))) ?_
      refine FA.opG rfl rfl rfl rfl (fun hp => OpW.force 30 rfl (by exact hp) (O.fieldAddrR rfl rfl)) ?_
      refine FA.opG rfl rfl rfl rfl (fun hp => OpW.force 31 rfl (by exact hp) (O.loadR rfl rfl (by exact getObC (k := k) (c := 1) hkk (by omega) (by omega)))) ?_
      refine FA.opG rfl rfl rfl rfl (fun hp => O.move rfl rfl) ?_
      refine FA.opG rfl rfl rfl rfl (fun hp => O.move rfl rfl) ?_
      refine FA.opG rfl rfl rfl rfl (fun hp => OpW.force 33 rfl (by exact hp) (OpW.force 34 rfl (by exact hp) (O.idxR rfl rfl rfl ⟨(by omega), (by omega)⟩))) ?_
      refine FA.opG rfl rfl rfl rfl (fun hp => OpW.force 35 rfl (by exact hp) (O.fieldAddrR rfl rfl)) ?_
      refine FA.opG rfl rfl rfl rfl (fun hp => OpW.force 36 rfl (by exact hp) (O.loadR rfl rfl (by exact getObC (k := k) (c := 1) hkk (by omega) (by omega)))) ?_
      refine FA.opG rfl rfl rfl rfl (fun hp => OpW.force 32 rfl (by exact hp) (OpW.force 37 rfl (by exact hp) (O.call rfl Try.func32 rfl rfl rfl (equal26_fn _ _)))) ?_
      refine FA.opG rfl rfl rfl rfl (fun hp => OpW.force 38 rfl (by exact hp) (O.not rfl rfl (by rfl))) ?_
      refine FA.op (O.pickOr rfl rfl rfl rfl (fun h => by exact congrArg (fun b => !b) h)) rfl rfl rfl rfl ?_
      refine FA.op (O.move rfl rfl) rfl rfl rfl rfl ?_
      refine FA.opG rfl rfl rfl rfl (fun hp => O.move rfl rfl) ?_
      refine FA.opG rfl rfl rfl rfl (fun hp => O.move rfl rfl) ?_
      refine FA.opG rfl rfl rfl rfl (fun hp => OpW.force 42 rfl (by exact hp) (OpW.force 43 rfl (by exact hp) (O.idxR rfl rfl rfl ⟨(by omega), (by omega)⟩))) ?_
      refine FA.opG rfl rfl rfl rfl (fun hp => OpW.force 44 rfl (by exact hp) (O.fieldAddrR rfl rfl)) ?_
      refine FA.opG rfl rfl rfl rfl (fun hp => OpW.force 45 rfl (by exact hp) (O.loadRK rfl rfl (by exact getObS (k := k) hkk (by omega)) (by rfl))) ?_
      refine FA.opG rfl rfl rfl rfl (fun hp => O.move rfl rfl) ?_
      refine FA.opG rfl rfl rfl rfl (fun hp => O.move rfl rfl) ?_
      refine FA.opG rfl rfl rfl rfl (fun hp => OpW.force 47 rfl (by exact hp) (OpW.force 48 rfl (by exact hp) (O.idxR rfl rfl rfl ⟨(by omega), (by omega)⟩))) ?_
      refine FA.opG rfl rfl rfl rfl (fun hp => OpW.force 49 rfl (by exact hp) (O.fieldAddrR rfl rfl)) ?_
      refine FA.opG rfl rfl rfl rfl (fun hp => OpW.force 50 rfl (by exact hp) (O.loadRK rfl rfl (by exact getObS (k := k) hkk (by omega)) (by rfl))) ?_
      refine FA.opG rfl rfl rfl rfl (fun hp => OpW.force 46 rfl (by exact hp) (OpW.force 51 rfl (by exact hp) (O.call rfl Try.func33 rfl rfl rfl (samebind_fn _ _ _)))) ?_
      refine FA.opG rfl rfl rfl rfl (fun hp => OpW.force 52 rfl (by exact hp) (O.not rfl rfl (by rfl))) ?_
      refine FA.op (O.pickOr rfl rfl rfl rfl (fun h => by exact congrArg (fun b => !b) h)) rfl rfl rfl rfl ?_
      refine FA.op (O.move rfl rfl) rfl rfl rfl rfl ?_
      refine FA.opG rfl rfl rfl rfl (fun hp => O.move rfl rfl) ?_
      refine FA.opG rfl rfl rfl rfl (fun hp => O.move rfl rfl) ?_
      refine FA.opG rfl rfl rfl rfl (fun hp => OpW.force 56 rfl (by exact hp) (OpW.force 57 rfl (by exact hp) (O.idxR rfl rfl rfl ⟨(by omega), (by omega)⟩))) ?_
      refine FA.opG rfl rfl rfl rfl (fun hp => OpW.force 58 rfl (by exact hp) (O.fieldAddrR rfl rfl)) ?_
      refine FA.opG rfl rfl rfl rfl (fun hp => OpW.force 59 rfl (by exact hp) (O.loadR rfl rfl (by exact getObC (k := k) (c := 5) hkk (by omega) (by omega)))) ?_
      refine FA.opG rfl rfl rfl rfl (fun hp => O.move rfl rfl) ?_
      refine FA.opG rfl rfl rfl rfl (fun hp => O.move rfl rfl) ?_
      refine FA.opG rfl rfl rfl rfl (fun hp => OpW.force 61 rfl (by exact hp) (OpW.force 62 rfl (by exact hp) (O.idxR rfl rfl rfl ⟨(by omega), (by omega)⟩))) ?_
      refine FA.opG rfl rfl rfl rfl (fun hp => OpW.force 63 rfl (by exact hp) (O.fieldAddrR rfl rfl)) ?_
      refine FA.opG rfl rfl rfl rfl (fun hp => OpW.force 64 rfl (by exact hp) (O.loadR rfl rfl (by exact getObC (k := k) (c := 5) hkk (by omega) (by omega)))) ?_
      refine FA.opG rfl rfl rfl rfl (fun hp => OpW.force 60 rfl (by exact hp) (OpW.force 65 rfl (by exact hp) (O.neqS rfl rfl rfl (by rfl)))) ?_
      refine FA.op (O.pickOr rfl rfl rfl rfl (fun h => by exact congrArg (fun b => !b) h)) rfl rfl rfl rfl ?_
      refine FA.nil ?_
      simp only [chosen, List.nil_append, List.cons_append, List.append_nil]
      refine AO.nil ?_
      refine AQ.thenN ?_
      refine AW.split rfl (fun hK => ?_) (fun hK => ?_) <;> (try simp only [decide_eq_true_eq, decide_eq_false_iff_not, beq_iff_eq, beq_eq_false_iff_ne, bne_iff_ne, bne_eq_false_iff_eq, Bool.not_eq_true', Bool.not_eq_false', Bool.not_eq_true, Bool.not_eq_false, ne_eq, Int.not_lt, Int.not_le, Bool.and_eq_true, Bool.or_eq_true, Bool.or_eq_false_iff, Bool.and_eq_false_imp, strOf_toList, Decidable.not_not] at hK)
      · skip
        exfalso
        simp at hK
      · skip
        refine AW.skip ?_
        refine AQ.blockN ?_
        refine AQ.thenN ?_
        refine AW.region ?_
        refine AO.op (O.add rfl rfl rfl (by exact wI64 (by omega))) rfl rfl rfl ?_
        refine AO.op (O.move rfl rfl) rfl rfl rfl ?_
        refine AO.nil ?_
        refine AQ.loopKN _ _ _ (by omega) (⟨k + 1, by omega, rfl, rfl, rfl⟩) (by repeat (first | exact envNil | refine envCons rfl ?_)) (by repeat (first | exact envNil | refine envCons rfl ?_)) (by repeat (exact subPnil))
    · skip
      refine AW.exit ?_
      refine AQ.thenX ?_
      refine AQ.loopX ?_
      refine AQ.blockX rfl ?_
      refine AQ.thenN ?_
      refine AW.seq ?_
      refine AW.region ?_
      refine AO.op (O.assign rfl rfl) rfl rfl rfl ?_
      refine AO.nil ?_
      refine AQ.thenN ?_
      refine AW.ret ?_
      refine AQ.ret1 rfl rfl ⟨_, List.nil_sublist _, .nil⟩ (⟨rfl, rfl⟩)
theorem small_fn (l : List UInt8) : Sp Try.prog 38 [roB l] [] (Is (.val (.bool (decide ((l.length : Int) ≤ 900))))) := by
  refine Sp.enter Try.func38 rfl _ Try.ntmps38 rfl (fun w0 R0 => ?_)
  refine AW.seq ?_
  refine AW.region ?_
  refine AO.op (O.assign rfl rfl) rfl rfl rfl ?_
  refine AO.nil ?_
  refine AQ.thenN ?_
  refine AW.seq ?_
  refine AW.region ?_
  refine AO.op (O.move rfl rfl) rfl rfl rfl ?_
  refine AO.op (O.lenR rfl rfl) rfl rfl rfl ?_
  refine AO.op (O.leq rfl rfl rfl (by rfl)) rfl rfl rfl ?_
  refine AO.op (O.assign rfl rfl) rfl rfl rfl ?_
  refine AO.nil ?_
  refine AQ.thenN ?_
  refine AW.ret ?_
  refine AQ.ret1 rfl rfl ⟨_, List.nil_sublist _, .nil⟩ (⟨rfl, rfl⟩)
abbrev roBs (bs : List (List UInt8)) : AV := .ro false bs.length (bs.map roB)
theorem getBs {bs : List (List UInt8)} {k : Nat} (h : k < bs.length) {j : Nat} (hj : j = k) : (bs.map roB)[j]? = some (roB (bs.getD k [])) := by subst hj; simp [h]
def AllS (bs : List (List UInt8)) (k : Nat) : Prop := ∀ i, i < k → (bs.getD i []).length ≤ 900
instance (bs : List (List UInt8)) (k : Nat) : Decidable (AllS bs k) := by unfold AllS; infer_instance
theorem AllS.succ {bs : List (List UInt8)} {k : Nat} (h : AllS bs k) (h2 : (bs.getD k []).length ≤ 900) : AllS bs (k + 1) := by
  intro i hi
  by_cases e : i = k
  · subst e; exact h2
  · exact h i (by omega)
def allB (bs : List (List UInt8)) : Bool := decide (AllS bs bs.length ∧ bs.length ≤ 20)
theorem all_fn (bs : List (List UInt8)) : Sp Try.prog 20 [roBs bs] [] (Is (.val (.bool (allB bs)))) := by
  refine Sp.enter Try.func20 rfl _ Try.ntmps20 rfl (fun w0 R0 => ?_)
  refine AW.g ?_
  refine G.lenRo (t := 0) rfl (fun hm1 => ?_)
  refine AW.u ?_
  unfold maxLen at hm1
  refine AW.seq ?_
  refine AW.region ?_
  refine AO.op (O.assign rfl rfl) rfl rfl rfl ?_
  refine AO.nil ?_
  refine AQ.thenN ?_
  refine AW.seq ?_
  refine AW.seq ?_
  refine AW.region ?_
  refine AO.op (O.move rfl rfl) rfl rfl rfl ?_
  refine AO.op (O.lenR rfl rfl) rfl rfl rfl ?_
  refine AO.op (O.move rfl rfl) rfl rfl rfl ?_
  refine AO.nil ?_
  refine AQ.thenN ?_
  refine AW.block ?_
  refine AW.loopK [(0, _), (5, _), (6, _)] (fun nn E H => ∃ (k : Nat), (k ≤ bs.length) ∧ (AllS bs k) ∧ nn = bs.length - k ∧ E = [(7, .val (.int .i64 (k : Int)))] ∧ H = []) _ (⟨0, by omega, (fun i hi => absurd hi (by omega)), rfl, rfl, rfl⟩) (by repeat (first | exact envNil | refine envCons rfl ?_)) (by repeat (first | exact envNil | refine envCons rfl ?_)) (by repeat (exact subPnil)) ?_
  rintro nn E H ⟨k, h1, hA, rfl, rfl, rfl⟩
  dsimp only [List.cons_append, List.nil_append]
  refine AW.seq ?_
  refine AW.region ?_
  refine AO.op (O.lss rfl rfl rfl (by rfl)) rfl rfl rfl ?_
  refine AO.nil ?_
  refine AQ.thenN ?_
  refine AW.seq ?_
  refine AW.split rfl (fun h => ?_) (fun h => ?_) <;> (try simp only [decide_eq_true_eq, decide_eq_false_iff_not, beq_iff_eq, beq_eq_false_iff_ne, bne_iff_ne, bne_eq_false_iff_eq, Bool.not_eq_true', Bool.not_eq_false', Bool.not_eq_true, Bool.not_eq_false, ne_eq, Int.not_lt, Int.not_le, Bool.and_eq_true, Bool.or_eq_true, Bool.or_eq_false_iff, Bool.and_eq_false_imp, strOf_toList, Decidable.not_not] at h)
  · skip
    have hk : k < bs.length := by omega
    refine AW.skip ?_
    refine AQ.thenN ?_
    refine AW.seq ?_
    refine AW.block ?_
    refine AW.seq ?_
    refine AW.region ?_
    refine AO.op (O.idxR rfl rfl rfl ⟨(by omega), (by omega)⟩) rfl rfl rfl ?_
    refine AO.op (O.loadR rfl rfl (by exact getBs (by assumption) (by omega))) rfl rfl rfl ?_
    refine AO.op (O.assign rfl rfl) rfl rfl rfl ?_
    refine AO.nil ?_
    refine AQ.thenN ?_
    refine AW.seq ?_
    refine AW.region ?_
    refine AO.op (O.move rfl rfl) rfl rfl rfl ?_
    refine AO.op (O.call rfl Try.func38 rfl rfl rfl (small_fn _)) rfl rfl rfl ?_
    refine AO.op (O.not rfl rfl (by rfl)) rfl rfl rfl ?_
    refine AO.nil ?_
    refine AQ.thenN ?_
    refine AW.split rfl (fun h2 => ?_) (fun h2 => ?_) <;> (try simp only [decide_eq_true_eq, decide_eq_false_iff_not, beq_iff_eq, beq_eq_false_iff_ne, bne_iff_ne, bne_eq_false_iff_eq, Bool.not_eq_true', Bool.not_eq_false', Bool.not_eq_true, Bool.not_eq_false, ne_eq, Int.not_lt, Int.not_le, Bool.and_eq_true, Bool.or_eq_true, Bool.or_eq_false_iff, Bool.and_eq_false_imp, strOf_toList, Decidable.not_not] at h2)
    · skip
      have e : allB bs = false := decide_eq_false (fun hh => by have := hh.1 k hk; omega)
      refine AW.seq ?_
      refine AW.region ?_
      refine AO.op (O.assign rfl rfl) rfl rfl rfl ?_
      refine AO.nil ?_
      refine AQ.thenN ?_
      refine AW.ret ?_
      refine AQ.blockR ?_
      refine AQ.thenR ?_
      refine AQ.loopR ?_
      refine AQ.blockR ?_
      refine AQ.thenR ?_
      refine AQ.ret1 rfl rfl ⟨_, List.nil_sublist _, .nil⟩ (⟨by rw [e]; rfl, rfl⟩)
    · skip
      have hA2 := hA.succ (show (bs.getD k []).length ≤ 900 by omega)
      refine AW.skip ?_
      refine AQ.blockN ?_
      refine AQ.thenN ?_
      refine AW.region ?_
      refine AO.op (O.add rfl rfl rfl (by exact wI64 (by omega))) rfl rfl rfl ?_
      refine AO.op (O.move rfl rfl) rfl rfl rfl ?_
      refine AO.nil ?_
      refine AQ.loopKN _ _ _ (by omega) (⟨k + 1, by omega, hA2, rfl, rfl, rfl⟩) (by repeat (first | exact envNil | refine envCons rfl ?_)) (by repeat (first | exact envNil | refine envCons rfl ?_)) (by repeat (exact subPnil))
  · skip
    obtain rfl : k = bs.length := by omega
    refine AW.exit ?_
    refine AQ.thenX ?_
    refine AQ.loopX ?_
    refine AQ.blockX rfl ?_
    refine AQ.thenN ?_
    refine AW.seq ?_
    refine AW.region ?_
    refine AO.op (O.move rfl rfl) rfl rfl rfl ?_
    refine AO.op (O.lenR rfl rfl) rfl rfl rfl ?_
    refine AO.op (O.leq rfl rfl rfl (by rfl)) rfl rfl rfl ?_
    refine AO.op (O.assign rfl rfl) rfl rfl rfl ?_
    refine AO.nil ?_
    refine AQ.thenN ?_
    refine AW.ret ?_
    refine AQ.ret1 rfl rfl ⟨_, List.nil_sublist _, .nil⟩ (⟨by rw [allB]; simp [hA]; omega, rfl⟩)
def smallO (o : Obs) : Bool := allB [o.tok, o.kid, o.ctx] && decide (o.path.size ≤ 300)
theorem smallO_len {o : Obs} (h : smallO o = true) : o.tok.length ≤ 900 ∧ o.ctx.length ≤ 900 ∧ o.kid.length ≤ 900 ∧ o.path.size ≤ 300 := by
  rw [smallO, Bool.and_eq_true] at h
  have h1 := (of_decide_eq_true h.1).1
  exact ⟨h1 0 (by simp), h1 2 (by simp), h1 1 (by simp), of_decide_eq_true h.2⟩
def LightK (os : List Obs) (k : Nat) : Prop := ∀ i, i < k → smallO (obat os i) = true
instance (os : List Obs) (k : Nat) : Decidable (LightK os k) := by unfold LightK; infer_instance
theorem LightK.succ {os : List Obs} {k : Nat} (h : LightK os k) (h2 : smallO (obat os k) = true) : LightK os (k + 1) := by
  intro i hi
  by_cases e : i = k
  · subst e; exact h2
  · exact h i (by omega)
def lightB (os : List Obs) : Bool := decide (LightK os os.length ∧ os.length ≤ 20)
theorem lightB_short {os : List Obs} (h : lightB os = true) : ShortOb os ∧ os.length ≤ 20 := by
  have h1 := of_decide_eq_true h
  refine ⟨⟨by omega, fun o ho => ?_⟩, h1.2⟩
  obtain ⟨i, hi, e⟩ := List.getElem_of_mem ho
  have h2 := h1.1 i hi
  rw [show obat os i = o by rw [obat, List.getD_eq_getElem?_getD, List.getElem?_eq_getElem hi]; exact e] at h2
  have h3 := smallO_len h2
  omega
theorem light_fn (os : List Obs) : Sp Try.prog 4 [roOb os] [] (Is (.val (.bool (lightB os)))) := by
  refine Sp.enter Try.func4 rfl _ Try.ntmps4 rfl (fun w0 R0 => ?_)
  refine AW.g ?_
  refine G.lenRo (t := 0) rfl (fun hm1 => ?_)
  refine AW.u ?_
  unfold maxLen at hm1
  refine AW.seq ?_
  refine AW.region ?_
  refine AO.op (O.assign rfl rfl) rfl rfl rfl ?_
  refine AO.nil ?_
  refine AQ.thenN ?_
  refine AW.seq ?_
  refine AW.seq ?_
  refine AW.region ?_
  refine AO.op (O.move rfl rfl) rfl rfl rfl ?_
  refine AO.op (O.lenR rfl rfl) rfl rfl rfl ?_
  refine AO.op (O.move rfl rfl) rfl rfl rfl ?_
  refine AO.nil ?_
  refine AQ.thenN ?_
  refine AW.block ?_
  refine AW.loopK [(0, _), (5, _), (6, _)] (fun nn E H => ∃ (k : Nat), (k ≤ os.length) ∧ (LightK os k) ∧ nn = os.length - k ∧ E = [(7, .val (.int .i64 (k : Int)))] ∧ H = []) _ (⟨0, by omega, (fun i hi => absurd hi (by omega)), rfl, rfl, rfl⟩) (by repeat (first | exact envNil | refine envCons rfl ?_)) (by repeat (first | exact envNil | refine envCons rfl ?_)) (by repeat (exact subPnil)) ?_
  rintro nn E H ⟨k, h1, hA, rfl, rfl, rfl⟩
  dsimp only [List.cons_append, List.nil_append]
  refine AW.seq ?_
  refine AW.region ?_
  refine AO.op (O.lss rfl rfl rfl (by rfl)) rfl rfl rfl ?_
  refine AO.nil ?_
  refine AQ.thenN ?_
  refine AW.seq ?_
  refine AW.split rfl (fun h => ?_) (fun h => ?_) <;> (try simp only [decide_eq_true_eq, decide_eq_false_iff_not, beq_iff_eq, beq_eq_false_iff_ne, bne_iff_ne, bne_eq_false_iff_eq, Bool.not_eq_true', Bool.not_eq_false', Bool.not_eq_true, Bool.not_eq_false, ne_eq, Int.not_lt, Int.not_le, Bool.and_eq_true, Bool.or_eq_true, Bool.or_eq_false_iff, Bool.and_eq_false_imp, strOf_toList, Decidable.not_not] at h)
  · skip
    have hk : k < os.length := by omega
    refine AW.skip ?_
    refine AQ.thenN ?_
    refine AW.seq ?_
    refine AW.block ?_
    refine AW.seq ?_
    refine AW.region ?_
    refine AO.op (O.idxR rfl rfl rfl ⟨(by omega), (by omega)⟩) rfl rfl rfl ?_
    refine AO.op (O.loadRK rfl rfl (by exact getOb (by omega) (by omega)) (by rfl)) rfl rfl rfl ?_
    refine AO.opB (O.alloc rfl (by (dsimp only [List.set, List.append, List.cons_append, List.nil_append, roB_cells, roI_cells, roO_cells, splice, ofConst, AV.cells, List.map, List.map_cons, List.map_nil, List.take, List.drop, Nat.zero_add, Nat.add_zero, Nat.reduceAdd, Nat.reduceMul, Nat.zero_mul, Value.cells, List.toList_toArray, zerosA, List.replicate, List.flatten, List.append_nil]; done)) (by rfl)) rfl rfl rfl ?_
    intro B1
    (refine AO.store (i := 0) rfl rfl rfl rfl rfl rfl (by rfl) (by rfl) (by rfl) (by (dsimp only [List.set, List.append, List.cons_append, List.nil_append, roB_cells, roI_cells, roO_cells, splice, ofConst, AV.cells, List.map, List.map_cons, List.map_nil, List.take, List.drop, Nat.zero_add, Nat.add_zero, Nat.reduceAdd, Nat.reduceMul, Nat.zero_mul, Value.cells, List.toList_toArray, zerosA, List.replicate, List.flatten, List.append_nil]; done)) (by (dsimp only [List.set, List.append, List.cons_append, List.nil_append, roB_cells, roI_cells, roO_cells, splice, ofConst, AV.cells, List.map, List.map_cons, List.map_nil, List.take, List.drop, Nat.zero_add, Nat.add_zero, Nat.reduceAdd, Nat.reduceMul, Nat.zero_mul, Value.cells, List.toList_toArray, zerosA, List.replicate, List.flatten, List.append_nil]; done)) ?_)
    refine AO.nil ?_
    refine AQ.thenN ?_
    refine AW.seq ?_
    refine AW.region ?_
    refine AO.op (O.fieldAddr rfl rfl) rfl rfl rfl ?_
    refine AO.op (O.load rfl rfl (by repeat (exact List.Mem.head _)) (by rfl)) rfl rfl rfl ?_
    refine AO.op (O.fieldAddr rfl rfl) rfl rfl rfl ?_
    refine AO.op (O.fieldAddr rfl rfl) rfl rfl rfl ?_
    refine AO.op (O.load rfl rfl (by repeat (exact List.Mem.head _)) (by rfl)) rfl rfl rfl ?_
    refine AO.op (O.fieldAddr rfl rfl) rfl rfl rfl ?_
    refine AO.op (O.fieldAddr rfl rfl) rfl rfl rfl ?_
    refine AO.op (O.load rfl rfl (by repeat (exact List.Mem.head _)) (by rfl)) rfl rfl rfl ?_
    refine AO.opB (O.buildSliceF rfl rfl rfl (by rfl) (by rfl) (by rfl) (by rfl) (by rfl)) rfl rfl rfl ?_
    intro B2
    refine AO.g ?_
    (refine G.freezeSl 0 19 rfl rfl ⟨Nat.le_refl _, by unfold maxLen; omega⟩ ?_)
    refine G.unfull 19 rfl ?_
    refine AO.u ?_
    dsimp only [List.eraseIdx]
    refine AO.op (O.call rfl Try.func20 rfl rfl rfl (all_fn [_, _, _])) rfl rfl rfl ?_
    refine AO.op (O.not rfl rfl (by rfl)) rfl rfl rfl ?_
    refine AO.op (O.move rfl rfl) rfl rfl rfl ?_
    refine AO.opG rfl rfl rfl (fun hp => O.fieldAddr rfl rfl) ?_
    refine AO.opG rfl rfl rfl (fun hp => OpW.force 23 rfl (by exact hp) (O.load rfl rfl (by repeat (exact List.Mem.head _)) (by rfl))) ?_
    refine AO.opG rfl rfl rfl (fun hp => OpW.force 24 rfl (by exact hp) (O.lenS rfl rfl)) ?_
    refine AO.opG rfl rfl rfl (fun hp => OpW.force 25 rfl (by exact hp) (O.gtr rfl rfl rfl (by rfl))) ?_
    refine AO.op (O.pickOr rfl rfl rfl rfl (fun h => by exact congrArg (fun b => !b) h)) rfl rfl rfl ?_
    refine AO.nil ?_
    refine AQ.thenN ?_
    refine AW.split rfl (fun h2 => ?_) (fun h2 => ?_) <;> (try simp only [decide_eq_true_eq, decide_eq_false_iff_not, beq_iff_eq, beq_eq_false_iff_ne, bne_iff_ne, bne_eq_false_iff_eq, Bool.not_eq_true', Bool.not_eq_false', Bool.not_eq_true, Bool.not_eq_false, ne_eq, Int.not_lt, Int.not_le, Bool.and_eq_true, Bool.or_eq_true, Bool.or_eq_false_iff, Bool.and_eq_false_imp, strOf_toList, Decidable.not_not] at h2)
    · skip
      have e : lightB os = false := decide_eq_false (fun hh => by have h3 := hh.1 k hk; rw [smallO, Bool.and_eq_true, decide_eq_true_eq] at h3; exact h2.elim (fun h2 => by rw [h3.1] at h2; cases h2) (fun h2 => by omega))
      refine AW.seq ?_
      refine AW.region ?_
      refine AO.op (O.assign rfl rfl) rfl rfl rfl ?_
      refine AO.nil ?_
      refine AQ.thenN ?_
      refine AW.ret ?_
      refine AQ.blockR ?_
      refine AQ.thenR ?_
      refine AQ.loopR ?_
      refine AQ.blockR ?_
      refine AQ.thenR ?_
      refine AQ.ret1 rfl rfl ⟨_, List.nil_sublist _, .nil⟩ (⟨by rw [e]; rfl, rfl⟩)
    · skip
      have hA2 := hA.succ (show smallO (obat os k) = true by rw [smallO, Bool.and_eq_true, decide_eq_true_eq]; exact ⟨h2.1, by omega⟩)
      refine AW.skip ?_
      refine AQ.blockN ?_
      refine AQ.thenN ?_
      refine AW.region ?_
      refine AO.op (O.add rfl rfl rfl (by exact wI64 (by omega))) rfl rfl rfl ?_
      refine AO.op (O.move rfl rfl) rfl rfl rfl ?_
      refine AO.nil ?_
      refine AQ.loopKN _ _ _ (by omega) (⟨k + 1, by omega, hA2, rfl, rfl, rfl⟩) (by repeat (first | exact envNil | refine envCons rfl ?_)) (by repeat (first | exact envNil | refine envCons rfl ?_)) (by repeat (exact subPnil))
  · skip
    obtain rfl : k = os.length := by omega
    refine AW.exit ?_
    refine AQ.thenX ?_
    refine AQ.loopX ?_
    refine AQ.blockX rfl ?_
    refine AQ.thenN ?_
    refine AW.seq ?_
    refine AW.region ?_
    refine AO.op (O.move rfl rfl) rfl rfl rfl ?_
    refine AO.op (O.lenR rfl rfl) rfl rfl rfl ?_
    refine AO.op (O.leq rfl rfl rfl (by rfl)) rfl rfl rfl ?_
    refine AO.op (O.assign rfl rfl) rfl rfl rfl ?_
    refine AO.nil ?_
    refine AQ.thenN ?_
    refine AW.ret ?_
    refine AQ.ret1 rfl rfl ⟨_, List.nil_sublist _, .nil⟩ (⟨by rw [lightB]; simp [hA]; omega, rfl⟩)
end Go.Proofs.Ytjgmedmakbjkdaa.By

namespace Go.Proofs.Ytjgmedmakbjkdaa.By
open Go.RowKit L A Dk
set_option linter.unusedVariables false
set_option linter.unusedSimpArgs false
attribute [local irreducible] AW AQ AO

/-- Something, and a deck of which more or fewer numbers are taken. -/
def Gen (b : Nat) (l : List Int) (Φ : AV → Prop) : AV → List HE → Prop := fun r H' => Φ r ∧ ∃ k, k ≤ l.length ∧ H' = [deck b l k]
def IsNum (n : Int) (r : AV) : Prop := ∃ z : Int, 0 ≤ z ∧ z < n ∧ r = .val (.int .i64 z)
def IsBytes (n : Nat) (r : AV) : Prop := ∃ x : List UInt8, x.length ≤ n ∧ r = roB x
def Some1 (Φ : AV → Prop) : AV → List HE → Prop := fun r H' => Φ r ∧ H' = []
theorem next_any (b : Nat) (l : List Int) (k : Nat) (n : Int) (hl : l.length ≤ maxLen) (hk : k ≤ l.length) (hn1 : 0 < n) (hn2 : n ≤ 4611686018427387904) :
    Sp Try.prog 22 [ptr b, .val (.int .i64 n)] [deck b l k] (Gen b l (IsNum n)) :=
  (next_fn b l k n hl hk hn1 hn2).mono fun r H' ⟨h1, h2⟩ => ⟨⟨_, (nxt_in l k hn1).1, (nxt_in l k hn1).2, h1⟩, _, adv_le' hk, h2⟩

set_option maxHeartbeats 1000000 in
theorem bytes_any (b : Nat) (l : List Int) (k : Nat) (n : Nat) (hl : l.length ≤ maxLen) (hk : k ≤ l.length) (hn : n ≤ 1000000) :
    Sp Try.prog 27 [ptr b, .val (.int .i64 (n : Int))] [deck b l k] (Gen b l (IsBytes n)) := by
  refine Sp.enter Try.func27 rfl _ Try.ntmps27 rfl (fun w0 R0 => ?_)
  refine AW.seq ?_
  refine AW.region ?_
  refine AO.op (O.assign rfl rfl) rfl rfl rfl ?_
  refine AO.nil ?_
  refine AQ.thenN ?_
  refine AW.seq ?_
  refine AW.region ?_
  refine AO.op (O.assign rfl rfl) rfl rfl rfl ?_
  refine AO.nil ?_
  refine AQ.thenN ?_
  refine AW.seq ?_
  refine AW.seq ?_
  refine AW.region ?_
  refine AO.op (O.move rfl rfl) rfl rfl rfl ?_
  refine AO.op (O.move rfl rfl) rfl rfl rfl ?_
  refine AO.op (O.add rfl rfl rfl (by first | exact wI64 (by omega) | rfl)) rfl rfl rfl ?_
  first | (refine AO.callMG 0 rfl rfl Try.func22 rfl rfl rfl rfl rfl rfl (next_any _ l _ _ hl (by assumption) (by omega) (by omega)) ?_) | (refine AO.callMG 1 rfl rfl Try.func22 rfl rfl rfl rfl rfl rfl (next_any _ l _ _ hl (by assumption) (by omega) (by omega)) ?_) | (refine AO.callMG 2 rfl rfl Try.func22 rfl rfl rfl rfl rfl rfl (next_any _ l _ _ hl (by assumption) (by omega) (by omega)) ?_) | (refine AO.callMG 3 rfl rfl Try.func22 rfl rfl rfl rfl rfl rfl (next_any _ l _ _ hl (by assumption) (by omega) (by omega)) ?_) | (refine AO.callMG 4 rfl rfl Try.func22 rfl rfl rfl rfl rfl rfl (next_any _ l _ _ hl (by assumption) (by omega) (by omega)) ?_) | (refine AO.callMG 5 rfl rfl Try.func22 rfl rfl rfl rfl rfl rfl (next_any _ l _ _ hl (by assumption) (by omega) (by omega)) ?_) | (refine AO.callMG 6 rfl rfl Try.func22 rfl rfl rfl rfl rfl rfl (next_any _ l _ _ hl (by assumption) (by omega) (by omega)) ?_) | (refine AO.callMG 7 rfl rfl Try.func22 rfl rfl rfl rfl rfl rfl (next_any _ l _ _ hl (by assumption) (by omega) (by omega)) ?_) | (refine AO.callMG 8 rfl rfl Try.func22 rfl rfl rfl rfl rfl rfl (next_any _ l _ _ hl (by assumption) (by omega) (by omega)) ?_) | (refine AO.callMG 9 rfl rfl Try.func22 rfl rfl rfl rfl rfl rfl (next_any _ l _ _ hl (by assumption) (by omega) (by omega)) ?_)
  rintro _ _ ⟨⟨z, hz0, hz1, rfl⟩, kd, hkd, rfl⟩
  dsimp only [List.cons_append, List.nil_append, List.eraseIdx]
  refine AO.op (O.assign rfl rfl) rfl rfl rfl ?_
  refine AO.nil ?_
  refine AQ.thenN ?_
  refine AW.block ?_
  obtain ⟨c, rfl⟩ : ∃ c : Nat, z = (c : Int) := ⟨z.toNat, by omega⟩
  refine AW.g ?_
  refine G.nilRow 5 1 ?_
  refine AW.u ?_
  refine AW.loopK [(0, _)] (fun nn E H => ∃ (c' : Nat) (out : List UInt8) (V : Value) (kk : Nat), (out.length + c' ≤ n) ∧ (V.oneCell' = true) ∧ (kk ≤ l.length) ∧ c' = nn ∧ E = [(5, .val V), (6, .val (.int .i64 (c' : Int)))] ∧ H = [.row V 5 1 out.length (bytesA out), deck b l kk]) _ (⟨c, [], .slice none 0 0, kd, by simp <;> omega, rfl, hkd, rfl, rfl, rfl⟩) (by repeat (first | exact envNil | refine envCons rfl ?_)) (by repeat (first | exact envNil | refine envCons rfl ?_)) (by repeat (first | exact subPnil | refine subPcons 0 rfl ?_ | refine subPcons 1 rfl ?_ | refine subPcons 2 rfl ?_ | refine subPcons 3 rfl ?_ | refine subPcons 4 rfl ?_ | refine subPcons 5 rfl ?_ | refine subPcons 6 rfl ?_ | refine subPcons 7 rfl ?_)) ?_
  rintro nn E H ⟨c', out, V, kk, h1, hV, h3, rfl, rfl, rfl⟩
  dsimp only [List.cons_append, List.nil_append]
  refine AW.seq ?_
  refine AW.seq ?_
  refine AW.region ?_
  refine AO.op (O.move rfl rfl) rfl rfl rfl ?_
  refine AO.op (O.gtr rfl rfl rfl (by first | exact bTrue (by omega) | exact bFalse (by omega) | assumption | rfl)) rfl rfl rfl ?_
  refine AO.nil ?_
  refine AQ.thenN ?_
  refine AW.split rfl (fun h => ?_) (fun h => ?_) <;> (try simp only [decide_eq_true_eq, decide_eq_false_iff_not, beq_iff_eq, beq_eq_false_iff_ne, bne_iff_ne, bne_eq_false_iff_eq, Bool.not_eq_true', Bool.not_eq_false', Bool.not_eq_true, Bool.not_eq_false, ne_eq, Int.not_lt, Int.not_le, Bool.and_eq_true, Bool.or_eq_true, Bool.or_eq_false_iff, Bool.and_eq_false_imp, strOf_toList, Decidable.not_not] at h)
  · skip
    obtain ⟨j, rfl⟩ : ∃ j, c' = j + 1 := ⟨c' - 1, by omega⟩
    refine AW.skip ?_
    refine AQ.thenN ?_
    refine AW.seq ?_
    refine AW.block ?_
    refine AW.region ?_
    refine AO.op (O.move rfl rfl) rfl rfl rfl ?_
    refine AO.op (O.move rfl rfl) rfl rfl rfl ?_
    first | (refine AO.callMG 0 rfl rfl Try.func22 rfl rfl rfl rfl rfl rfl (next_any _ l _ _ hl (by assumption) (by omega) (by omega)) ?_) | (refine AO.callMG 1 rfl rfl Try.func22 rfl rfl rfl rfl rfl rfl (next_any _ l _ _ hl (by assumption) (by omega) (by omega)) ?_) | (refine AO.callMG 2 rfl rfl Try.func22 rfl rfl rfl rfl rfl rfl (next_any _ l _ _ hl (by assumption) (by omega) (by omega)) ?_) | (refine AO.callMG 3 rfl rfl Try.func22 rfl rfl rfl rfl rfl rfl (next_any _ l _ _ hl (by assumption) (by omega) (by omega)) ?_) | (refine AO.callMG 4 rfl rfl Try.func22 rfl rfl rfl rfl rfl rfl (next_any _ l _ _ hl (by assumption) (by omega) (by omega)) ?_) | (refine AO.callMG 5 rfl rfl Try.func22 rfl rfl rfl rfl rfl rfl (next_any _ l _ _ hl (by assumption) (by omega) (by omega)) ?_) | (refine AO.callMG 6 rfl rfl Try.func22 rfl rfl rfl rfl rfl rfl (next_any _ l _ _ hl (by assumption) (by omega) (by omega)) ?_) | (refine AO.callMG 7 rfl rfl Try.func22 rfl rfl rfl rfl rfl rfl (next_any _ l _ _ hl (by assumption) (by omega) (by omega)) ?_) | (refine AO.callMG 8 rfl rfl Try.func22 rfl rfl rfl rfl rfl rfl (next_any _ l _ _ hl (by assumption) (by omega) (by omega)) ?_) | (refine AO.callMG 9 rfl rfl Try.func22 rfl rfl rfl rfl rfl rfl (next_any _ l _ _ hl (by assumption) (by omega) (by omega)) ?_)
    rintro _ _ ⟨⟨z, hz0, hz1, rfl⟩, kd, hkd, rfl⟩
    dsimp only [List.cons_append, List.nil_append, List.eraseIdx]
    refine AO.op (O.conv rfl rfl wU8any) rfl rfl rfl ?_
    refine AO.opB (O.buildSlice rfl rfl rfl (by rfl) (by rfl) (by rfl) (by rfl)) rfl rfl rfl ?_
    intro B
    refine AO.g ?_
    first | (refine G.freezeSl 0 19 rfl rfl ⟨Nat.le_refl _, by unfold maxLen; omega⟩ ?_) | (refine G.freezeSl 1 19 rfl rfl ⟨Nat.le_refl _, by unfold maxLen; omega⟩ ?_) | (refine G.freezeSl 2 19 rfl rfl ⟨Nat.le_refl _, by unfold maxLen; omega⟩ ?_) | (refine G.freezeSl 3 19 rfl rfl ⟨Nat.le_refl _, by unfold maxLen; omega⟩ ?_) | (refine G.freezeSl 4 19 rfl rfl ⟨Nat.le_refl _, by unfold maxLen; omega⟩ ?_) | (refine G.freezeSl 5 19 rfl rfl ⟨Nat.le_refl _, by unfold maxLen; omega⟩ ?_) | (refine G.freezeSl 6 19 rfl rfl ⟨Nat.le_refl _, by unfold maxLen; omega⟩ ?_) | (refine G.freezeSl 7 19 rfl rfl ⟨Nat.le_refl _, by unfold maxLen; omega⟩ ?_) | (refine G.freezeSl 8 19 rfl rfl ⟨Nat.le_refl _, by unfold maxLen; omega⟩ ?_) | (refine G.freezeSl 9 19 rfl rfl ⟨Nat.le_refl _, by unfold maxLen; omega⟩ ?_)
    refine G.unfull 19 rfl ?_
    refine AO.u ?_
    dsimp only [List.eraseIdx]
    first | (refine AO.append' (i := 0) rfl rfl rfl rfl (by rfl) (by rfl) rfl rfl rfl (by first | exact SrcA.nil TyD.ax | exact SrcA.ro TyD.ax (by first | rfl | assumption | (simp; done) | (simp; omega)) (Nat.le_of_ble_eq_true rfl) | exact SrcA.blk TyD.ax (by repeat (first | exact List.Mem.head _ | refine List.Mem.tail _ ?_)) (by first | (dsimp only [List.set, List.append, List.cons_append, List.nil_append, splice, ofConst, AV.cells, List.map, List.map_cons, List.map_nil, List.take, List.drop, Nat.zero_add, Nat.add_zero, Nat.reduceAdd, Nat.reduceMul, Nat.zero_mul, Value.cells, List.toList_toArray, zerosA, List.replicate, List.flatten, List.append_nil]; rfl) | (dsimp only [List.set, List.append, List.cons_append, List.nil_append, splice, ofConst, AV.cells, List.map, List.map_cons, List.map_nil, List.take, List.drop, Nat.zero_add, Nat.add_zero, Nat.reduceAdd, Nat.reduceMul, Nat.zero_mul, Value.cells, List.toList_toArray, zerosA, List.replicate, List.flatten, List.append_nil]; done) | rfl) (by first | rfl | (simp; done) | (simp; omega)) | exact SrcA.row TyD.ax (by repeat (first | exact List.Mem.head _ | refine List.Mem.tail _ ?_)) (by first | rfl | (simp; done) | (simp; omega))) (by first | rfl | assumption | (simp [AV.cells, AV.one, *]; done) | (simp [AV.cells, AV.one, roB, roI, roO, show ∀ k z, (Value.int k z).oneCell' = true from fun _ _ => rfl, show ∀ k, (Value.bool k).oneCell' = true from fun _ => rfl, *]; done) | simp [AV.cells, AV.one, Value.oneCell', *]) (by first | (unfold maxLen; omega) | (unfold maxLen; simp only [List.length_take, List.length_drop, List.length_append, List.length_cons, List.length_nil, List.length_set, Nat.zero_add]; omega)) (by first | omega | (simp only [List.length_take, List.length_drop, List.length_append, List.length_cons, List.length_nil, List.length_set, Nat.zero_add]; omega)) (by first | (dsimp only [List.set, List.append, List.cons_append, List.nil_append, splice, ofConst, AV.cells, List.map, List.map_cons, List.map_nil, List.take, List.drop, Nat.zero_add, Nat.add_zero, Nat.reduceAdd, Nat.reduceMul, Nat.zero_mul, Value.cells, List.toList_toArray, zerosA, List.replicate, List.flatten, List.append_nil]; rfl) | (dsimp only [List.set, List.append, List.cons_append, List.nil_append, splice, ofConst, AV.cells, List.map, List.map_cons, List.map_nil, List.take, List.drop, Nat.zero_add, Nat.add_zero, Nat.reduceAdd, Nat.reduceMul, Nat.zero_mul, Value.cells, List.toList_toArray, zerosA, List.replicate, List.flatten, List.append_nil]; done) | rfl) (fun _ => by first | (dsimp only [List.set]; rfl) | (dsimp only [List.set]; done) | rfl) ?_) | (refine AO.append' (i := 1) rfl rfl rfl rfl (by rfl) (by rfl) rfl rfl rfl (by first | exact SrcA.nil TyD.ax | exact SrcA.ro TyD.ax (by first | rfl | assumption | (simp; done) | (simp; omega)) (Nat.le_of_ble_eq_true rfl) | exact SrcA.blk TyD.ax (by repeat (first | exact List.Mem.head _ | refine List.Mem.tail _ ?_)) (by first | (dsimp only [List.set, List.append, List.cons_append, List.nil_append, splice, ofConst, AV.cells, List.map, List.map_cons, List.map_nil, List.take, List.drop, Nat.zero_add, Nat.add_zero, Nat.reduceAdd, Nat.reduceMul, Nat.zero_mul, Value.cells, List.toList_toArray, zerosA, List.replicate, List.flatten, List.append_nil]; rfl) | (dsimp only [List.set, List.append, List.cons_append, List.nil_append, splice, ofConst, AV.cells, List.map, List.map_cons, List.map_nil, List.take, List.drop, Nat.zero_add, Nat.add_zero, Nat.reduceAdd, Nat.reduceMul, Nat.zero_mul, Value.cells, List.toList_toArray, zerosA, List.replicate, List.flatten, List.append_nil]; done) | rfl) (by first | rfl | (simp; done) | (simp; omega)) | exact SrcA.row TyD.ax (by repeat (first | exact List.Mem.head _ | refine List.Mem.tail _ ?_)) (by first | rfl | (simp; done) | (simp; omega))) (by first | rfl | assumption | (simp [AV.cells, AV.one, *]; done) | (simp [AV.cells, AV.one, roB, roI, roO, show ∀ k z, (Value.int k z).oneCell' = true from fun _ _ => rfl, show ∀ k, (Value.bool k).oneCell' = true from fun _ => rfl, *]; done) | simp [AV.cells, AV.one, Value.oneCell', *]) (by first | (unfold maxLen; omega) | (unfold maxLen; simp only [List.length_take, List.length_drop, List.length_append, List.length_cons, List.length_nil, List.length_set, Nat.zero_add]; omega)) (by first | omega | (simp only [List.length_take, List.length_drop, List.length_append, List.length_cons, List.length_nil, List.length_set, Nat.zero_add]; omega)) (by first | (dsimp only [List.set, List.append, List.cons_append, List.nil_append, splice, ofConst, AV.cells, List.map, List.map_cons, List.map_nil, List.take, List.drop, Nat.zero_add, Nat.add_zero, Nat.reduceAdd, Nat.reduceMul, Nat.zero_mul, Value.cells, List.toList_toArray, zerosA, List.replicate, List.flatten, List.append_nil]; rfl) | (dsimp only [List.set, List.append, List.cons_append, List.nil_append, splice, ofConst, AV.cells, List.map, List.map_cons, List.map_nil, List.take, List.drop, Nat.zero_add, Nat.add_zero, Nat.reduceAdd, Nat.reduceMul, Nat.zero_mul, Value.cells, List.toList_toArray, zerosA, List.replicate, List.flatten, List.append_nil]; done) | rfl) (fun _ => by first | (dsimp only [List.set]; rfl) | (dsimp only [List.set]; done) | rfl) ?_) | (refine AO.append' (i := 2) rfl rfl rfl rfl (by rfl) (by rfl) rfl rfl rfl (by first | exact SrcA.nil TyD.ax | exact SrcA.ro TyD.ax (by first | rfl | assumption | (simp; done) | (simp; omega)) (Nat.le_of_ble_eq_true rfl) | exact SrcA.blk TyD.ax (by repeat (first | exact List.Mem.head _ | refine List.Mem.tail _ ?_)) (by first | (dsimp only [List.set, List.append, List.cons_append, List.nil_append, splice, ofConst, AV.cells, List.map, List.map_cons, List.map_nil, List.take, List.drop, Nat.zero_add, Nat.add_zero, Nat.reduceAdd, Nat.reduceMul, Nat.zero_mul, Value.cells, List.toList_toArray, zerosA, List.replicate, List.flatten, List.append_nil]; rfl) | (dsimp only [List.set, List.append, List.cons_append, List.nil_append, splice, ofConst, AV.cells, List.map, List.map_cons, List.map_nil, List.take, List.drop, Nat.zero_add, Nat.add_zero, Nat.reduceAdd, Nat.reduceMul, Nat.zero_mul, Value.cells, List.toList_toArray, zerosA, List.replicate, List.flatten, List.append_nil]; done) | rfl) (by first | rfl | (simp; done) | (simp; omega)) | exact SrcA.row TyD.ax (by repeat (first | exact List.Mem.head _ | refine List.Mem.tail _ ?_)) (by first | rfl | (simp; done) | (simp; omega))) (by first | rfl | assumption | (simp [AV.cells, AV.one, *]; done) | (simp [AV.cells, AV.one, roB, roI, roO, show ∀ k z, (Value.int k z).oneCell' = true from fun _ _ => rfl, show ∀ k, (Value.bool k).oneCell' = true from fun _ => rfl, *]; done) | simp [AV.cells, AV.one, Value.oneCell', *]) (by first | (unfold maxLen; omega) | (unfold maxLen; simp only [List.length_take, List.length_drop, List.length_append, List.length_cons, List.length_nil, List.length_set, Nat.zero_add]; omega)) (by first | omega | (simp only [List.length_take, List.length_drop, List.length_append, List.length_cons, List.length_nil, List.length_set, Nat.zero_add]; omega)) (by first | (dsimp only [List.set, List.append, List.cons_append, List.nil_append, splice, ofConst, AV.cells, List.map, List.map_cons, List.map_nil, List.take, List.drop, Nat.zero_add, Nat.add_zero, Nat.reduceAdd, Nat.reduceMul, Nat.zero_mul, Value.cells, List.toList_toArray, zerosA, List.replicate, List.flatten, List.append_nil]; rfl) | (dsimp only [List.set, List.append, List.cons_append, List.nil_append, splice, ofConst, AV.cells, List.map, List.map_cons, List.map_nil, List.take, List.drop, Nat.zero_add, Nat.add_zero, Nat.reduceAdd, Nat.reduceMul, Nat.zero_mul, Value.cells, List.toList_toArray, zerosA, List.replicate, List.flatten, List.append_nil]; done) | rfl) (fun _ => by first | (dsimp only [List.set]; rfl) | (dsimp only [List.set]; done) | rfl) ?_) | (refine AO.append' (i := 3) rfl rfl rfl rfl (by rfl) (by rfl) rfl rfl rfl (by first | exact SrcA.nil TyD.ax | exact SrcA.ro TyD.ax (by first | rfl | assumption | (simp; done) | (simp; omega)) (Nat.le_of_ble_eq_true rfl) | exact SrcA.blk TyD.ax (by repeat (first | exact List.Mem.head _ | refine List.Mem.tail _ ?_)) (by first | (dsimp only [List.set, List.append, List.cons_append, List.nil_append, splice, ofConst, AV.cells, List.map, List.map_cons, List.map_nil, List.take, List.drop, Nat.zero_add, Nat.add_zero, Nat.reduceAdd, Nat.reduceMul, Nat.zero_mul, Value.cells, List.toList_toArray, zerosA, List.replicate, List.flatten, List.append_nil]; rfl) | (dsimp only [List.set, List.append, List.cons_append, List.nil_append, splice, ofConst, AV.cells, List.map, List.map_cons, List.map_nil, List.take, List.drop, Nat.zero_add, Nat.add_zero, Nat.reduceAdd, Nat.reduceMul, Nat.zero_mul, Value.cells, List.toList_toArray, zerosA, List.replicate, List.flatten, List.append_nil]; done) | rfl) (by first | rfl | (simp; done) | (simp; omega)) | exact SrcA.row TyD.ax (by repeat (first | exact List.Mem.head _ | refine List.Mem.tail _ ?_)) (by first | rfl | (simp; done) | (simp; omega))) (by first | rfl | assumption | (simp [AV.cells, AV.one, *]; done) | (simp [AV.cells, AV.one, roB, roI, roO, show ∀ k z, (Value.int k z).oneCell' = true from fun _ _ => rfl, show ∀ k, (Value.bool k).oneCell' = true from fun _ => rfl, *]; done) | simp [AV.cells, AV.one, Value.oneCell', *]) (by first | (unfold maxLen; omega) | (unfold maxLen; simp only [List.length_take, List.length_drop, List.length_append, List.length_cons, List.length_nil, List.length_set, Nat.zero_add]; omega)) (by first | omega | (simp only [List.length_take, List.length_drop, List.length_append, List.length_cons, List.length_nil, List.length_set, Nat.zero_add]; omega)) (by first | (dsimp only [List.set, List.append, List.cons_append, List.nil_append, splice, ofConst, AV.cells, List.map, List.map_cons, List.map_nil, List.take, List.drop, Nat.zero_add, Nat.add_zero, Nat.reduceAdd, Nat.reduceMul, Nat.zero_mul, Value.cells, List.toList_toArray, zerosA, List.replicate, List.flatten, List.append_nil]; rfl) | (dsimp only [List.set, List.append, List.cons_append, List.nil_append, splice, ofConst, AV.cells, List.map, List.map_cons, List.map_nil, List.take, List.drop, Nat.zero_add, Nat.add_zero, Nat.reduceAdd, Nat.reduceMul, Nat.zero_mul, Value.cells, List.toList_toArray, zerosA, List.replicate, List.flatten, List.append_nil]; done) | rfl) (fun _ => by first | (dsimp only [List.set]; rfl) | (dsimp only [List.set]; done) | rfl) ?_) | (refine AO.append' (i := 4) rfl rfl rfl rfl (by rfl) (by rfl) rfl rfl rfl (by first | exact SrcA.nil TyD.ax | exact SrcA.ro TyD.ax (by first | rfl | assumption | (simp; done) | (simp; omega)) (Nat.le_of_ble_eq_true rfl) | exact SrcA.blk TyD.ax (by repeat (first | exact List.Mem.head _ | refine List.Mem.tail _ ?_)) (by first | (dsimp only [List.set, List.append, List.cons_append, List.nil_append, splice, ofConst, AV.cells, List.map, List.map_cons, List.map_nil, List.take, List.drop, Nat.zero_add, Nat.add_zero, Nat.reduceAdd, Nat.reduceMul, Nat.zero_mul, Value.cells, List.toList_toArray, zerosA, List.replicate, List.flatten, List.append_nil]; rfl) | (dsimp only [List.set, List.append, List.cons_append, List.nil_append, splice, ofConst, AV.cells, List.map, List.map_cons, List.map_nil, List.take, List.drop, Nat.zero_add, Nat.add_zero, Nat.reduceAdd, Nat.reduceMul, Nat.zero_mul, Value.cells, List.toList_toArray, zerosA, List.replicate, List.flatten, List.append_nil]; done) | rfl) (by first | rfl | (simp; done) | (simp; omega)) | exact SrcA.row TyD.ax (by repeat (first | exact List.Mem.head _ | refine List.Mem.tail _ ?_)) (by first | rfl | (simp; done) | (simp; omega))) (by first | rfl | assumption | (simp [AV.cells, AV.one, *]; done) | (simp [AV.cells, AV.one, roB, roI, roO, show ∀ k z, (Value.int k z).oneCell' = true from fun _ _ => rfl, show ∀ k, (Value.bool k).oneCell' = true from fun _ => rfl, *]; done) | simp [AV.cells, AV.one, Value.oneCell', *]) (by first | (unfold maxLen; omega) | (unfold maxLen; simp only [List.length_take, List.length_drop, List.length_append, List.length_cons, List.length_nil, List.length_set, Nat.zero_add]; omega)) (by first | omega | (simp only [List.length_take, List.length_drop, List.length_append, List.length_cons, List.length_nil, List.length_set, Nat.zero_add]; omega)) (by first | (dsimp only [List.set, List.append, List.cons_append, List.nil_append, splice, ofConst, AV.cells, List.map, List.map_cons, List.map_nil, List.take, List.drop, Nat.zero_add, Nat.add_zero, Nat.reduceAdd, Nat.reduceMul, Nat.zero_mul, Value.cells, List.toList_toArray, zerosA, List.replicate, List.flatten, List.append_nil]; rfl) | (dsimp only [List.set, List.append, List.cons_append, List.nil_append, splice, ofConst, AV.cells, List.map, List.map_cons, List.map_nil, List.take, List.drop, Nat.zero_add, Nat.add_zero, Nat.reduceAdd, Nat.reduceMul, Nat.zero_mul, Value.cells, List.toList_toArray, zerosA, List.replicate, List.flatten, List.append_nil]; done) | rfl) (fun _ => by first | (dsimp only [List.set]; rfl) | (dsimp only [List.set]; done) | rfl) ?_) | (refine AO.append' (i := 5) rfl rfl rfl rfl (by rfl) (by rfl) rfl rfl rfl (by first | exact SrcA.nil TyD.ax | exact SrcA.ro TyD.ax (by first | rfl | assumption | (simp; done) | (simp; omega)) (Nat.le_of_ble_eq_true rfl) | exact SrcA.blk TyD.ax (by repeat (first | exact List.Mem.head _ | refine List.Mem.tail _ ?_)) (by first | (dsimp only [List.set, List.append, List.cons_append, List.nil_append, splice, ofConst, AV.cells, List.map, List.map_cons, List.map_nil, List.take, List.drop, Nat.zero_add, Nat.add_zero, Nat.reduceAdd, Nat.reduceMul, Nat.zero_mul, Value.cells, List.toList_toArray, zerosA, List.replicate, List.flatten, List.append_nil]; rfl) | (dsimp only [List.set, List.append, List.cons_append, List.nil_append, splice, ofConst, AV.cells, List.map, List.map_cons, List.map_nil, List.take, List.drop, Nat.zero_add, Nat.add_zero, Nat.reduceAdd, Nat.reduceMul, Nat.zero_mul, Value.cells, List.toList_toArray, zerosA, List.replicate, List.flatten, List.append_nil]; done) | rfl) (by first | rfl | (simp; done) | (simp; omega)) | exact SrcA.row TyD.ax (by repeat (first | exact List.Mem.head _ | refine List.Mem.tail _ ?_)) (by first | rfl | (simp; done) | (simp; omega))) (by first | rfl | assumption | (simp [AV.cells, AV.one, *]; done) | (simp [AV.cells, AV.one, roB, roI, roO, show ∀ k z, (Value.int k z).oneCell' = true from fun _ _ => rfl, show ∀ k, (Value.bool k).oneCell' = true from fun _ => rfl, *]; done) | simp [AV.cells, AV.one, Value.oneCell', *]) (by first | (unfold maxLen; omega) | (unfold maxLen; simp only [List.length_take, List.length_drop, List.length_append, List.length_cons, List.length_nil, List.length_set, Nat.zero_add]; omega)) (by first | omega | (simp only [List.length_take, List.length_drop, List.length_append, List.length_cons, List.length_nil, List.length_set, Nat.zero_add]; omega)) (by first | (dsimp only [List.set, List.append, List.cons_append, List.nil_append, splice, ofConst, AV.cells, List.map, List.map_cons, List.map_nil, List.take, List.drop, Nat.zero_add, Nat.add_zero, Nat.reduceAdd, Nat.reduceMul, Nat.zero_mul, Value.cells, List.toList_toArray, zerosA, List.replicate, List.flatten, List.append_nil]; rfl) | (dsimp only [List.set, List.append, List.cons_append, List.nil_append, splice, ofConst, AV.cells, List.map, List.map_cons, List.map_nil, List.take, List.drop, Nat.zero_add, Nat.add_zero, Nat.reduceAdd, Nat.reduceMul, Nat.zero_mul, Value.cells, List.toList_toArray, zerosA, List.replicate, List.flatten, List.append_nil]; done) | rfl) (fun _ => by first | (dsimp only [List.set]; rfl) | (dsimp only [List.set]; done) | rfl) ?_) | (refine AO.append' (i := 6) rfl rfl rfl rfl (by rfl) (by rfl) rfl rfl rfl (by first | exact SrcA.nil TyD.ax | exact SrcA.ro TyD.ax (by first | rfl | assumption | (simp; done) | (simp; omega)) (Nat.le_of_ble_eq_true rfl) | exact SrcA.blk TyD.ax (by repeat (first | exact List.Mem.head _ | refine List.Mem.tail _ ?_)) (by first | (dsimp only [List.set, List.append, List.cons_append, List.nil_append, splice, ofConst, AV.cells, List.map, List.map_cons, List.map_nil, List.take, List.drop, Nat.zero_add, Nat.add_zero, Nat.reduceAdd, Nat.reduceMul, Nat.zero_mul, Value.cells, List.toList_toArray, zerosA, List.replicate, List.flatten, List.append_nil]; rfl) | (dsimp only [List.set, List.append, List.cons_append, List.nil_append, splice, ofConst, AV.cells, List.map, List.map_cons, List.map_nil, List.take, List.drop, Nat.zero_add, Nat.add_zero, Nat.reduceAdd, Nat.reduceMul, Nat.zero_mul, Value.cells, List.toList_toArray, zerosA, List.replicate, List.flatten, List.append_nil]; done) | rfl) (by first | rfl | (simp; done) | (simp; omega)) | exact SrcA.row TyD.ax (by repeat (first | exact List.Mem.head _ | refine List.Mem.tail _ ?_)) (by first | rfl | (simp; done) | (simp; omega))) (by first | rfl | assumption | (simp [AV.cells, AV.one, *]; done) | (simp [AV.cells, AV.one, roB, roI, roO, show ∀ k z, (Value.int k z).oneCell' = true from fun _ _ => rfl, show ∀ k, (Value.bool k).oneCell' = true from fun _ => rfl, *]; done) | simp [AV.cells, AV.one, Value.oneCell', *]) (by first | (unfold maxLen; omega) | (unfold maxLen; simp only [List.length_take, List.length_drop, List.length_append, List.length_cons, List.length_nil, List.length_set, Nat.zero_add]; omega)) (by first | omega | (simp only [List.length_take, List.length_drop, List.length_append, List.length_cons, List.length_nil, List.length_set, Nat.zero_add]; omega)) (by first | (dsimp only [List.set, List.append, List.cons_append, List.nil_append, splice, ofConst, AV.cells, List.map, List.map_cons, List.map_nil, List.take, List.drop, Nat.zero_add, Nat.add_zero, Nat.reduceAdd, Nat.reduceMul, Nat.zero_mul, Value.cells, List.toList_toArray, zerosA, List.replicate, List.flatten, List.append_nil]; rfl) | (dsimp only [List.set, List.append, List.cons_append, List.nil_append, splice, ofConst, AV.cells, List.map, List.map_cons, List.map_nil, List.take, List.drop, Nat.zero_add, Nat.add_zero, Nat.reduceAdd, Nat.reduceMul, Nat.zero_mul, Value.cells, List.toList_toArray, zerosA, List.replicate, List.flatten, List.append_nil]; done) | rfl) (fun _ => by first | (dsimp only [List.set]; rfl) | (dsimp only [List.set]; done) | rfl) ?_) | (refine AO.append' (i := 7) rfl rfl rfl rfl (by rfl) (by rfl) rfl rfl rfl (by first | exact SrcA.nil TyD.ax | exact SrcA.ro TyD.ax (by first | rfl | assumption | (simp; done) | (simp; omega)) (Nat.le_of_ble_eq_true rfl) | exact SrcA.blk TyD.ax (by repeat (first | exact List.Mem.head _ | refine List.Mem.tail _ ?_)) (by first | (dsimp only [List.set, List.append, List.cons_append, List.nil_append, splice, ofConst, AV.cells, List.map, List.map_cons, List.map_nil, List.take, List.drop, Nat.zero_add, Nat.add_zero, Nat.reduceAdd, Nat.reduceMul, Nat.zero_mul, Value.cells, List.toList_toArray, zerosA, List.replicate, List.flatten, List.append_nil]; rfl) | (dsimp only [List.set, List.append, List.cons_append, List.nil_append, splice, ofConst, AV.cells, List.map, List.map_cons, List.map_nil, List.take, List.drop, Nat.zero_add, Nat.add_zero, Nat.reduceAdd, Nat.reduceMul, Nat.zero_mul, Value.cells, List.toList_toArray, zerosA, List.replicate, List.flatten, List.append_nil]; done) | rfl) (by first | rfl | (simp; done) | (simp; omega)) | exact SrcA.row TyD.ax (by repeat (first | exact List.Mem.head _ | refine List.Mem.tail _ ?_)) (by first | rfl | (simp; done) | (simp; omega))) (by first | rfl | assumption | (simp [AV.cells, AV.one, *]; done) | (simp [AV.cells, AV.one, roB, roI, roO, show ∀ k z, (Value.int k z).oneCell' = true from fun _ _ => rfl, show ∀ k, (Value.bool k).oneCell' = true from fun _ => rfl, *]; done) | simp [AV.cells, AV.one, Value.oneCell', *]) (by first | (unfold maxLen; omega) | (unfold maxLen; simp only [List.length_take, List.length_drop, List.length_append, List.length_cons, List.length_nil, List.length_set, Nat.zero_add]; omega)) (by first | omega | (simp only [List.length_take, List.length_drop, List.length_append, List.length_cons, List.length_nil, List.length_set, Nat.zero_add]; omega)) (by first | (dsimp only [List.set, List.append, List.cons_append, List.nil_append, splice, ofConst, AV.cells, List.map, List.map_cons, List.map_nil, List.take, List.drop, Nat.zero_add, Nat.add_zero, Nat.reduceAdd, Nat.reduceMul, Nat.zero_mul, Value.cells, List.toList_toArray, zerosA, List.replicate, List.flatten, List.append_nil]; rfl) | (dsimp only [List.set, List.append, List.cons_append, List.nil_append, splice, ofConst, AV.cells, List.map, List.map_cons, List.map_nil, List.take, List.drop, Nat.zero_add, Nat.add_zero, Nat.reduceAdd, Nat.reduceMul, Nat.zero_mul, Value.cells, List.toList_toArray, zerosA, List.replicate, List.flatten, List.append_nil]; done) | rfl) (fun _ => by first | (dsimp only [List.set]; rfl) | (dsimp only [List.set]; done) | rfl) ?_) | (refine AO.append' (i := 8) rfl rfl rfl rfl (by rfl) (by rfl) rfl rfl rfl (by first | exact SrcA.nil TyD.ax | exact SrcA.ro TyD.ax (by first | rfl | assumption | (simp; done) | (simp; omega)) (Nat.le_of_ble_eq_true rfl) | exact SrcA.blk TyD.ax (by repeat (first | exact List.Mem.head _ | refine List.Mem.tail _ ?_)) (by first | (dsimp only [List.set, List.append, List.cons_append, List.nil_append, splice, ofConst, AV.cells, List.map, List.map_cons, List.map_nil, List.take, List.drop, Nat.zero_add, Nat.add_zero, Nat.reduceAdd, Nat.reduceMul, Nat.zero_mul, Value.cells, List.toList_toArray, zerosA, List.replicate, List.flatten, List.append_nil]; rfl) | (dsimp only [List.set, List.append, List.cons_append, List.nil_append, splice, ofConst, AV.cells, List.map, List.map_cons, List.map_nil, List.take, List.drop, Nat.zero_add, Nat.add_zero, Nat.reduceAdd, Nat.reduceMul, Nat.zero_mul, Value.cells, List.toList_toArray, zerosA, List.replicate, List.flatten, List.append_nil]; done) | rfl) (by first | rfl | (simp; done) | (simp; omega)) | exact SrcA.row TyD.ax (by repeat (first | exact List.Mem.head _ | refine List.Mem.tail _ ?_)) (by first | rfl | (simp; done) | (simp; omega))) (by first | rfl | assumption | (simp [AV.cells, AV.one, *]; done) | (simp [AV.cells, AV.one, roB, roI, roO, show ∀ k z, (Value.int k z).oneCell' = true from fun _ _ => rfl, show ∀ k, (Value.bool k).oneCell' = true from fun _ => rfl, *]; done) | simp [AV.cells, AV.one, Value.oneCell', *]) (by first | (unfold maxLen; omega) | (unfold maxLen; simp only [List.length_take, List.length_drop, List.length_append, List.length_cons, List.length_nil, List.length_set, Nat.zero_add]; omega)) (by first | omega | (simp only [List.length_take, List.length_drop, List.length_append, List.length_cons, List.length_nil, List.length_set, Nat.zero_add]; omega)) (by first | (dsimp only [List.set, List.append, List.cons_append, List.nil_append, splice, ofConst, AV.cells, List.map, List.map_cons, List.map_nil, List.take, List.drop, Nat.zero_add, Nat.add_zero, Nat.reduceAdd, Nat.reduceMul, Nat.zero_mul, Value.cells, List.toList_toArray, zerosA, List.replicate, List.flatten, List.append_nil]; rfl) | (dsimp only [List.set, List.append, List.cons_append, List.nil_append, splice, ofConst, AV.cells, List.map, List.map_cons, List.map_nil, List.take, List.drop, Nat.zero_add, Nat.add_zero, Nat.reduceAdd, Nat.reduceMul, Nat.zero_mul, Value.cells, List.toList_toArray, zerosA, List.replicate, List.flatten, List.append_nil]; done) | rfl) (fun _ => by first | (dsimp only [List.set]; rfl) | (dsimp only [List.set]; done) | rfl) ?_) | (refine AO.append' (i := 9) rfl rfl rfl rfl (by rfl) (by rfl) rfl rfl rfl (by first | exact SrcA.nil TyD.ax | exact SrcA.ro TyD.ax (by first | rfl | assumption | (simp; done) | (simp; omega)) (Nat.le_of_ble_eq_true rfl) | exact SrcA.blk TyD.ax (by repeat (first | exact List.Mem.head _ | refine List.Mem.tail _ ?_)) (by first | (dsimp only [List.set, List.append, List.cons_append, List.nil_append, splice, ofConst, AV.cells, List.map, List.map_cons, List.map_nil, List.take, List.drop, Nat.zero_add, Nat.add_zero, Nat.reduceAdd, Nat.reduceMul, Nat.zero_mul, Value.cells, List.toList_toArray, zerosA, List.replicate, List.flatten, List.append_nil]; rfl) | (dsimp only [List.set, List.append, List.cons_append, List.nil_append, splice, ofConst, AV.cells, List.map, List.map_cons, List.map_nil, List.take, List.drop, Nat.zero_add, Nat.add_zero, Nat.reduceAdd, Nat.reduceMul, Nat.zero_mul, Value.cells, List.toList_toArray, zerosA, List.replicate, List.flatten, List.append_nil]; done) | rfl) (by first | rfl | (simp; done) | (simp; omega)) | exact SrcA.row TyD.ax (by repeat (first | exact List.Mem.head _ | refine List.Mem.tail _ ?_)) (by first | rfl | (simp; done) | (simp; omega))) (by first | rfl | assumption | (simp [AV.cells, AV.one, *]; done) | (simp [AV.cells, AV.one, roB, roI, roO, show ∀ k z, (Value.int k z).oneCell' = true from fun _ _ => rfl, show ∀ k, (Value.bool k).oneCell' = true from fun _ => rfl, *]; done) | simp [AV.cells, AV.one, Value.oneCell', *]) (by first | (unfold maxLen; omega) | (unfold maxLen; simp only [List.length_take, List.length_drop, List.length_append, List.length_cons, List.length_nil, List.length_set, Nat.zero_add]; omega)) (by first | omega | (simp only [List.length_take, List.length_drop, List.length_append, List.length_cons, List.length_nil, List.length_set, Nat.zero_add]; omega)) (by first | (dsimp only [List.set, List.append, List.cons_append, List.nil_append, splice, ofConst, AV.cells, List.map, List.map_cons, List.map_nil, List.take, List.drop, Nat.zero_add, Nat.add_zero, Nat.reduceAdd, Nat.reduceMul, Nat.zero_mul, Value.cells, List.toList_toArray, zerosA, List.replicate, List.flatten, List.append_nil]; rfl) | (dsimp only [List.set, List.append, List.cons_append, List.nil_append, splice, ofConst, AV.cells, List.map, List.map_cons, List.map_nil, List.take, List.drop, Nat.zero_add, Nat.add_zero, Nat.reduceAdd, Nat.reduceMul, Nat.zero_mul, Value.cells, List.toList_toArray, zerosA, List.replicate, List.flatten, List.append_nil]; done) | rfl) (fun _ => by first | (dsimp only [List.set]; rfl) | (dsimp only [List.set]; done) | rfl) ?_)
    intro V hV
    refine AO.op (O.assign rfl rfl) rfl rfl rfl ?_
    refine AO.nil ?_
    refine AQ.blockN ?_
    refine AQ.thenN ?_
    refine AW.region ?_
    refine AO.op (O.move rfl rfl) rfl rfl rfl ?_
    refine AO.op (O.sub rfl rfl rfl (by first | exact wI64 (by omega) | rfl)) rfl rfl rfl ?_
    refine AO.op (O.assign rfl rfl) rfl rfl rfl ?_
    refine AO.nil ?_
    rw [show ((j + 1 : Nat) : Int) - 1 = (j : Int) by omega]
    refine AQ.loopKN _ _ _ (by omega) (⟨j, out ++ [u8 z], V, kd, by simp; omega, hV, hkd, rfl, rfl, by rw [bytesA_app, List.length_append] <;> rfl⟩) (by repeat (first | exact envNil | refine envCons rfl ?_)) (by repeat (first | exact envNil | refine envCons rfl ?_)) (by repeat (first | exact subPnil | refine subPcons 0 rfl ?_ | refine subPcons 1 rfl ?_ | refine subPcons 2 rfl ?_ | refine subPcons 3 rfl ?_ | refine subPcons 4 rfl ?_ | refine subPcons 5 rfl ?_ | refine subPcons 6 rfl ?_ | refine subPcons 7 rfl ?_))
  · skip
    refine AW.exit ?_
    refine AQ.thenX ?_
    refine AQ.loopX ?_
    refine AQ.blockX rfl ?_
    refine AQ.thenN ?_
    refine AW.seq ?_
    refine AW.region ?_
    refine AO.op (O.move rfl rfl) rfl rfl rfl ?_
    refine AO.op (O.assign rfl rfl) rfl rfl rfl ?_
    refine AO.nil ?_
    refine AQ.thenN ?_
    refine AW.ret ?_
    refine AQ.g ?_
    first | (refine G.freezeRow 0 rfl [4] (by repeat (first | exact frNil | refine frCons rfl ?_)) ?_) | (refine G.freezeRow 1 rfl [4] (by repeat (first | exact frNil | refine frCons rfl ?_)) ?_) | (refine G.freezeRow 2 rfl [4] (by repeat (first | exact frNil | refine frCons rfl ?_)) ?_) | (refine G.freezeRow 3 rfl [4] (by repeat (first | exact frNil | refine frCons rfl ?_)) ?_) | (refine G.freezeRow 4 rfl [4] (by repeat (first | exact frNil | refine frCons rfl ?_)) ?_)
    refine AQ.u ?_
    dsimp only [List.map, List.eraseIdx, List.cons_append, List.nil_append]
    refine AQ.ret1 rfl rfl ⟨_, by repeat (first | exact List.Sublist.slnil | refine List.Sublist.cons_cons _ ?_ | refine List.Sublist.cons _ ?_), List.Perm.refl _⟩ (⟨⟨out, by omega, roB_of rfl rfl⟩, _, h3, rfl⟩)

end Go.Proofs.Ytjgmedmakbjkdaa.By

namespace Go.Proofs.Ytjgmedmakbjkdaa.By
open Go.RowKit L A Dk
set_option linter.unusedVariables false
set_option linter.unusedSimpArgs false
attribute [local irreducible] AW AQ AO
abbrev watT : AV := .tup [.agg [roB [1], roB [], roB [], .val (.int .i64 0), .val (.int .i64 (-1)), .val (.bool true)], .val (.int .i64 0)]
theorem retW {q : AV} (hq : q = watT) : Is watT q [] := ⟨hq, rfl⟩
set_option maxHeartbeats 4000000 in
theorem watch1_fn : Sp Try.prog 21 [roB [1], .agg [roB [], roB [], .val (.int .i64 0)]] [] (Is watT) := by
  refine Sp.enter Try.func21 rfl _ Try.ntmps21 rfl (fun w0 R0 => ?_)
  refine AW.seq ?_
  refine AW.region ?_
  refine AO.opB (O.box rfl rfl rfl rfl rfl) rfl rfl rfl ?_
  intro B1
  refine AO.opB (O.alloc rfl (by (dsimp only [List.set, List.append, List.cons_append, List.nil_append, roB_cells, roI_cells, roO_cells, splice, ofConst, AV.cells, List.map, List.map_cons, List.map_nil, List.take, List.drop, Nat.zero_add, Nat.add_zero, Nat.reduceAdd, Nat.reduceMul, Nat.zero_mul, Value.cells, List.toList_toArray, zerosA, List.replicate, List.flatten, List.append_nil]; done)) (by rfl)) rfl rfl rfl ?_
  intro B2
  refine AO.op (O.assign rfl rfl) rfl rfl rfl ?_
  refine AO.nil ?_
  refine AQ.thenN ?_
  refine AW.seq ?_
  refine AW.seq ?_
  refine AW.region ?_
  refine AO.op (O.move rfl rfl) rfl rfl rfl ?_
  refine AO.op (O.lenR rfl rfl) rfl rfl rfl ?_
  refine AO.op (O.gtr rfl rfl rfl (by rfl)) rfl rfl rfl ?_
  refine AO.nil ?_
  refine AQ.thenN ?_
  refine AW.condF rfl ?_
  refine AW.skip ?_
  refine AQ.thenN ?_
  refine AW.seq ?_
  refine AW.regionD 5 (by kernel_rfl) (by kernel_rfl) ?_
  simp only [List.take_succ_cons, List.take_zero, List.drop_succ_cons, List.drop_zero]
  refine FA.op (O.move rfl rfl) rfl rfl rfl rfl ?_
  refine FA.op (O.call rfl Try.func30 rfl rfl rfl (copiedn_fn [1] (by decide))) rfl rfl rfl rfl ?_
  refine FA.op (O.loadK rfl rfl (by repeat (first | exact List.Mem.head _ | refine List.Mem.tail _ ?_)) (by rfl) (by rfl)) rfl rfl rfl rfl ?_
  refine FA.op (O.call rfl Try.func31 rfl rfl rfl (bind_fn [] [] 0 (by decide) (by decide))) rfl rfl rfl rfl ?_
  refine FA.op (O.build rfl rfl rfl (by rfl)) rfl rfl rfl rfl ?_
  refine FA.nil ?_
  simp only [chosen, List.nil_append, List.cons_append, List.append_nil]
  (refine AO.store (i := 0) rfl rfl rfl rfl rfl rfl (by rfl) (by rfl) (by rfl) (by rfl) (by (dsimp only [List.set, List.append, List.cons_append, List.nil_append, roB_cells, roI_cells, roO_cells, splice, ofConst, AV.cells, List.map, List.map_cons, List.map_nil, List.take, List.drop, Nat.zero_add, Nat.add_zero, Nat.reduceAdd, Nat.reduceMul, Nat.zero_mul, Value.cells, List.toList_toArray, zerosA, List.replicate, List.flatten, List.append_nil]; done)) ?_)
  refine AO.op (O.assign rfl rfl) rfl rfl rfl ?_
  refine AO.nil ?_
  refine AQ.thenN ?_
  refine AW.ret ?_
  refine FnQ.coe (AQ.retCT rfl rfl rfl (by repeat (exact List.Mem.head _)) (by (dsimp only [List.set, List.append, List.cons_append, List.nil_append, roB_cells, roI_cells, roO_cells, splice, ofConst, AV.cells, List.map, List.map_cons, List.map_nil, List.take, List.drop, Nat.zero_add, Nat.add_zero, Nat.reduceAdd, Nat.reduceMul, Nat.zero_mul, Value.cells, List.toList_toArray, zerosA, List.replicate, List.flatten, List.append_nil]; done)) (by rfl) ⟨_, List.nil_sublist _, .nil⟩ ⟨rfl, rfl⟩) (Coe.tup (by (repeat (first | exact CoeL.nil | refine CoeL.cons Coe.rfl ?_)); done)) (retW rfl)
def NearO (o : Obs) : Prop := o.tok.length ≤ 2 ∧ o.ctx.length ≤ 2 ∧ o.kid.length ≤ 2
def IsObs (r : AV) : Prop := ∃ o : Obs, NearO o ∧ r = aggOb o
def pathL : List ByteArray := [⟨#[47, 97]⟩, ⟨#[47, 98]⟩, ⟨#[47, 99]⟩, ⟨#[47, 100]⟩, ⟨#[47, 101]⟩, ⟨#[47, 102]⟩, ⟨#[47, 103]⟩]
theorem path_at {z : Int} (h0 : 0 ≤ z) (h1 : z < 7) {j : Nat} (hj : j = z.toNat * 1) : ([.val (.string ⟨#[47, 97]⟩), .val (.string ⟨#[47, 98]⟩), .val (.string ⟨#[47, 99]⟩), .val (.string ⟨#[47, 100]⟩), .val (.string ⟨#[47, 101]⟩), .val (.string ⟨#[47, 102]⟩), .val (.string ⟨#[47, 103]⟩)] : List AV)[j]? = some (.val (.string (pathL.getD z.toNat ByteArray.empty))) := by
  subst hj
  rw [Nat.mul_one]
  obtain ⟨n, rfl⟩ : ∃ n : Nat, z = (n : Int) := ⟨z.toNat, by omega⟩
  have h2 : n < 7 := by omega
  match n, h2 with
  | 0, _ | 1, _ | 2, _ | 3, _ | 4, _ | 5, _ | 6, _ => rfl
set_option maxHeartbeats 4000000 in
theorem observer_any (b : Nat) (l : List Int) (k : Nat) (hl : l.length ≤ maxLen) (hk : k ≤ l.length) :
    Sp Try.prog 10 [ptr b] [deck b l k] (Gen b l IsObs) := by
  refine Sp.enter Try.func10 rfl _ Try.ntmps10 rfl (fun w0 R0 => ?_)
  refine AW.seq ?_
  refine AW.region ?_
  refine AO.opB (O.alloc rfl (by (dsimp only [List.set, List.append, List.cons_append, List.nil_append, roB_cells, roI_cells, roO_cells, splice, ofConst, AV.cells, List.map, List.map_cons, List.map_nil, List.take, List.drop, Nat.zero_add, Nat.add_zero, Nat.reduceAdd, Nat.reduceMul, Nat.zero_mul, Value.cells, List.toList_toArray, zerosA, List.replicate, List.flatten, List.append_nil]; done)) (by rfl)) rfl rfl rfl ?_
  intro B1
  refine AO.nil ?_
  refine AQ.thenN ?_
  refine AW.seq ?_
  refine AW.region ?_
  refine AO.op (O.move rfl rfl) rfl rfl rfl ?_
  refine AO.callMG 1 rfl rfl Try.func22 rfl rfl rfl rfl rfl rfl (next_any _ l _ _ hl (by assumption) (by omega) (by omega)) ?_
  rintro _ _ ⟨⟨z2, hz02, hz12, rfl⟩, kd2, hkd2, rfl⟩
  dsimp only [List.cons_append, List.nil_append, List.eraseIdx]
  refine AO.op (O.move rfl rfl) rfl rfl rfl ?_
  refine AO.callMG 0 rfl rfl Try.func27 rfl rfl rfl rfl rfl rfl (bytes_any _ l _ 2 hl (by assumption) (by omega)) ?_
  rintro _ _ ⟨⟨x3, hx3, rfl⟩, kd3, hkd3, rfl⟩
  dsimp only [List.cons_append, List.nil_append, List.eraseIdx]
  refine AO.op (O.move rfl rfl) rfl rfl rfl ?_
  refine AO.callMG 0 rfl rfl Try.func27 rfl rfl rfl rfl rfl rfl (bytes_any _ l _ 2 hl (by assumption) (by omega)) ?_
  rintro _ _ ⟨⟨x4, hx4, rfl⟩, kd4, hkd4, rfl⟩
  dsimp only [List.cons_append, List.nil_append, List.eraseIdx]
  refine AO.op (O.move rfl rfl) rfl rfl rfl ?_
  refine AO.callMG 0 rfl rfl Try.func22 rfl rfl rfl rfl rfl rfl (next_any _ l _ _ hl (by assumption) (by omega) (by omega)) ?_
  rintro _ _ ⟨⟨z5, hz05, hz15, rfl⟩, kd5, hkd5, rfl⟩
  dsimp only [List.cons_append, List.nil_append, List.eraseIdx]
  refine AO.op (O.build rfl rfl rfl (by rfl)) rfl rfl rfl ?_
  refine AO.opB (O.buildSliceF rfl rfl rfl (by rfl) (by rfl) (by rfl) (by rfl) (by rfl)) rfl rfl rfl ?_
  intro B6
  refine AO.g ?_
  (refine G.freezeSl 0 12 rfl rfl ⟨Nat.le_refl _, by unfold maxLen; omega⟩ ?_)
  refine G.unfull 12 rfl ?_
  refine AO.u ?_
  dsimp only [List.eraseIdx]
  refine AO.op (O.move rfl rfl) rfl rfl rfl ?_
  refine AO.callMG 0 rfl rfl Try.func22 rfl rfl rfl rfl rfl rfl (next_any _ l _ _ hl (by assumption) (by omega) (by omega)) ?_
  rintro _ _ ⟨⟨z7, hz07, hz17, rfl⟩, kd7, hkd7, rfl⟩
  dsimp only [List.cons_append, List.nil_append, List.eraseIdx]
  refine AO.op (O.idxR rfl rfl rfl ⟨(by omega), (by omega)⟩) rfl rfl rfl ?_
  refine AO.op (O.loadR rfl rfl (by exact path_at (by assumption) (by assumption) rfl)) rfl rfl rfl ?_
  refine AO.op (O.build rfl rfl rfl (by rfl)) rfl rfl rfl ?_
  (refine AO.store (i := 1) rfl rfl rfl rfl rfl rfl (by rfl) (by rfl) (by rfl) (by rfl) (by (dsimp only [List.set, List.append, List.cons_append, List.nil_append, roB_cells, roI_cells, roO_cells, splice, ofConst, AV.cells, List.map, List.map_cons, List.map_nil, List.take, List.drop, Nat.zero_add, Nat.add_zero, Nat.reduceAdd, Nat.reduceMul, Nat.zero_mul, Value.cells, List.toList_toArray, zerosA, List.replicate, List.flatten, List.append_nil]; done)) ?_)
  refine AO.nil ?_
  refine AQ.thenN ?_
  refine AW.ret ?_
  refine AQ.g ?_
  refine G.coeCell 1 2 rfl rfl Coe.nil ?_
  refine AQ.u ?_
  refine AQ.retCell rfl rfl (by repeat (first | exact List.Mem.head _ | refine List.Mem.tail _ ?_)) (by (dsimp only [List.set, List.append, List.cons_append, List.nil_append, roB_cells, roI_cells, roO_cells, splice, ofConst, AV.cells, List.map, List.map_cons, List.map_nil, List.take, List.drop, Nat.zero_add, Nat.add_zero, Nat.reduceAdd, Nat.reduceMul, Nat.zero_mul, Value.cells, List.toList_toArray, zerosA, List.replicate, List.flatten, List.append_nil]; rfl)) rfl ⟨_, by repeat (first | exact List.Sublist.slnil | refine List.Sublist.cons_cons _ ?_ | refine List.Sublist.cons _ ?_), List.Perm.refl _⟩ (⟨⟨⟨_, _, [], _, _, _⟩, ⟨by assumption, by simp, by assumption⟩, rfl⟩, _, by assumption, rfl⟩)
def NearL (os : List Obs) : Prop := os.length ≤ 16 ∧ ∀ o ∈ os, NearO o
theorem NearL.short {os : List Obs} (h : NearL os) : ShortOb os := ⟨by have := h.1; omega, fun o ho => by have := h.2 o ho; unfold NearO at this; omega⟩
theorem NearL.reg {os : List Obs} (h : NearL os) {o : Obs} (ho : NearO o) : NearL (regR os o).1 := by
  unfold regR
  split
  · split
    · exact ⟨by simp, by simp⟩
    · rename_i h1 h2
      refine ⟨by simp only [List.length_append, List.length_cons, List.length_nil]; omega, fun x hx => ?_⟩
      rcases List.mem_append.1 hx with hx | hx
      · exact h.2 x (List.mem_filter.1 hx).1
      · obtain rfl : x = o := by simpa using hx
        exact ho
  · exact ⟨by simp, by simp⟩
def IsObsL (r : AV) : Prop := ∃ os : List Obs, NearL os ∧ r = roOb os
set_option maxHeartbeats 4000000 in
theorem list_any (b : Nat) (l : List Int) (k : Nat) (hl : l.length ≤ maxLen) (hk : k ≤ l.length) :
    Sp Try.prog 7 [ptr b] [deck b l k] (Gen b l IsObsL) := by
  refine Sp.enter Try.func7 rfl _ Try.ntmps7 rfl (fun w0 R0 => ?_)
  refine AW.seq ?_
  refine AW.region ?_
  refine AO.op (O.assign rfl rfl) rfl rfl rfl ?_
  refine AO.nil ?_
  refine AQ.thenN ?_
  refine AW.seq ?_
  refine AW.region ?_
  refine AO.op (O.assign rfl rfl) rfl rfl rfl ?_
  refine AO.nil ?_
  refine AQ.thenN ?_
  refine AW.seq ?_
  refine AW.seq ?_
  refine AW.region ?_
  refine AO.op (O.move rfl rfl) rfl rfl rfl ?_
  refine AO.callMG 0 rfl rfl Try.func22 rfl rfl rfl rfl rfl rfl (next_any _ l _ _ hl (by assumption) (by omega) (by omega)) ?_
  rintro _ _ ⟨⟨z1, hz01, hz11, rfl⟩, kd1, hkd1, rfl⟩
  dsimp only [List.cons_append, List.nil_append, List.eraseIdx]
  refine AO.op (O.assign rfl rfl) rfl rfl rfl ?_
  refine AO.nil ?_
  refine AQ.thenN ?_
  refine AW.block ?_
  obtain ⟨c, rfl⟩ : ∃ c : Nat, z1 = (c : Int) := ⟨z1.toNat, by omega⟩
  refine AW.g ?_
  refine G.nilRo 3 rfl ?_
  refine AW.u ?_
  refine AW.loopK [(0, _)] (fun nn E H => ∃ (c' : Nat) (os : List Obs) (kk : Nat), (c' ≤ 22) ∧ (NearL os) ∧ (kk ≤ l.length) ∧ c' = nn ∧ E = [(3, roOb os), (4, .val (.int .i64 (c' : Int)))] ∧ H = [deck b l kk]) _ (⟨c, [], kd1, by omega, ⟨by simp, by simp⟩, by assumption, rfl, rfl, rfl⟩) (by repeat (first | exact envNil | refine envCons rfl ?_)) (by repeat (first | exact envNil | refine envCons rfl ?_)) (by repeat (first | exact subPnil | refine subPcons 0 rfl ?_)) ?_
  rintro nn E H ⟨c', os, kk, hc, hos, h3, rfl, rfl, rfl⟩
  dsimp only [List.cons_append, List.nil_append]
  refine AW.seq ?_
  refine AW.seq ?_
  refine AW.region ?_
  refine AO.op (O.move rfl rfl) rfl rfl rfl ?_
  refine AO.op (O.gtr rfl rfl rfl (by rfl)) rfl rfl rfl ?_
  refine AO.nil ?_
  refine AQ.thenN ?_
  refine AW.split rfl (fun h => ?_) (fun h => ?_) <;> (try simp only [decide_eq_true_eq, decide_eq_false_iff_not, beq_iff_eq, beq_eq_false_iff_ne, bne_iff_ne, bne_eq_false_iff_eq, Bool.not_eq_true', Bool.not_eq_false', Bool.not_eq_true, Bool.not_eq_false, ne_eq, Int.not_lt, Int.not_le, Bool.and_eq_true, Bool.or_eq_true, Bool.or_eq_false_iff, Bool.and_eq_false_imp, strOf_toList, Decidable.not_not] at h)
  · skip
    obtain ⟨j, rfl⟩ : ∃ j, c' = j + 1 := ⟨c' - 1, by omega⟩
    refine AW.skip ?_
    refine AQ.thenN ?_
    refine AW.seq ?_
    refine AW.block ?_
    refine AW.seq ?_
    refine AW.region ?_
    refine AO.op (O.move rfl rfl) rfl rfl rfl ?_
    refine AO.op (O.move rfl rfl) rfl rfl rfl ?_
    refine AO.callMG 0 rfl rfl Try.func10 rfl rfl rfl rfl rfl rfl (observer_any _ l _ hl (by assumption)) ?_
    rintro _ _ ⟨⟨o2, ho2, rfl⟩, kd2, hkd2, rfl⟩
    dsimp only [List.cons_append, List.nil_append, List.eraseIdx]
    refine AO.op (O.call rfl Try.func12 rfl rfl rfl (rregister_fn os _ hos.short)) rfl rfl rfl ?_
    refine AO.op (O.move rfl rfl) rfl rfl rfl ?_
    refine AO.op (O.extract rfl rfl rfl) rfl rfl rfl ?_
    refine AO.op (O.extract rfl rfl rfl) rfl rfl rfl ?_
    refine AO.op (O.assign rfl rfl) rfl rfl rfl ?_
    refine AO.op (O.assign rfl rfl) rfl rfl rfl ?_
    refine AO.nil ?_
    refine AQ.thenN ?_
    refine AW.seq ?_
    refine AW.region ?_
    refine AO.op (O.move rfl rfl) rfl rfl rfl ?_
    refine AO.op (O.eql rfl rfl rfl (by rfl)) rfl rfl rfl ?_
    refine AO.nil ?_
    refine AQ.thenN ?_
    trace_state
    refine AW.split rfl (fun h2 => ?_) (fun h2 => ?_) <;> (try simp only [decide_eq_true_eq, decide_eq_false_iff_not, beq_iff_eq, beq_eq_false_iff_ne, bne_iff_ne, bne_eq_false_iff_eq, Bool.not_eq_true', Bool.not_eq_false', Bool.not_eq_true, Bool.not_eq_false, ne_eq, Int.not_lt, Int.not_le, Bool.and_eq_true, Bool.or_eq_true, Bool.or_eq_false_iff, Bool.and_eq_false_imp, strOf_toList, Decidable.not_not] at h2)
    · skip
      refine AW.region ?_
      refine AO.op (O.move rfl rfl) rfl rfl rfl ?_
      refine AO.op (O.assign rfl rfl) rfl rfl rfl ?_
      refine AO.nil ?_
      refine AQ.blockN ?_
      refine AQ.thenN ?_
      refine AW.region ?_
      refine AO.op (O.move rfl rfl) rfl rfl rfl ?_
      refine AO.op (O.sub rfl rfl rfl (by exact wI64 (by omega))) rfl rfl rfl ?_
      refine AO.op (O.assign rfl rfl) rfl rfl rfl ?_
      refine AO.nil ?_
      rw [show ((j + 1 : Nat) : Int) - 1 = (j : Int) by omega]
      refine AQ.loopKN _ _ _ (by omega) (⟨j, _, _, by omega, hos.reg (by assumption), by assumption, rfl, rfl, rfl⟩) (by repeat (first | exact envNil | refine envCons rfl ?_)) (by repeat (first | exact envNil | refine envCons rfl ?_)) (by repeat (first | exact subPnil | refine subPcons 0 rfl ?_))
    · skip
      refine AW.skip ?_
      refine AQ.blockN ?_
      refine AQ.thenN ?_
      refine AW.region ?_
      refine AO.op (O.move rfl rfl) rfl rfl rfl ?_
      refine AO.op (O.sub rfl rfl rfl (by exact wI64 (by omega))) rfl rfl rfl ?_
      refine AO.op (O.assign rfl rfl) rfl rfl rfl ?_
      refine AO.nil ?_
      rw [show ((j + 1 : Nat) : Int) - 1 = (j : Int) by omega]
      refine AQ.loopKN _ _ _ (by omega) (⟨j, os, _, by omega, hos, by assumption, rfl, rfl, rfl⟩) (by repeat (first | exact envNil | refine envCons rfl ?_)) (by repeat (first | exact envNil | refine envCons rfl ?_)) (by repeat (first | exact subPnil | refine subPcons 0 rfl ?_))
  · skip
    refine AW.exit ?_
    refine AQ.thenX ?_
    refine AQ.loopX ?_
    refine AQ.blockX rfl ?_
    refine AQ.thenN ?_
    refine AW.seq ?_
    refine AW.region ?_
    refine AO.op (O.move rfl rfl) rfl rfl rfl ?_
    refine AO.op (O.assign rfl rfl) rfl rfl rfl ?_
    refine AO.nil ?_
    refine AQ.thenN ?_
    refine AW.ret ?_
    refine AQ.ret1 rfl rfl ⟨_, by repeat (first | exact List.Sublist.slnil | refine List.Sublist.cons_cons _ ?_), List.Perm.refl _⟩ (⟨⟨os, hos, rfl⟩, _, h3, rfl⟩)
end Go.Proofs.Ytjgmedmakbjkdaa.By

namespace Go.Proofs.Ytjgmedmakbjkdaa.By
open Go.RowKit L A Dk
set_option linter.unusedVariables false
set_option linter.unusedSimpArgs false
attribute [local irreducible] AW AQ AO
def oA : Obs := ⟨1, [], [], [], 0, ⟨#[47, 97]⟩⟩
theorem regA : regR [] oA = ([oA], 0) := by
  have h : validOb [] = true ∧ rightB oA = true := by decide
  rw [regR, if_pos h, if_neg (by decide)]; rfl
theorem tarA : tarR [oA] ⟨#[47, 97]⟩ = [oA] := by
  simp [tarR, eqS, oA]
theorem reg_ex : Sp Try.prog 11 [roOb [], aggOb oA] [] (Is (.tup [roOb [oA], .val (.int .i64 0)])) := by
  have := register_fn [] oA ⟨by simp, by simp⟩ (by decide) (by decide) (by decide)
  rwa [regA] at this
theorem shA : ShortOb [oA] := by
  refine ⟨by simp, fun o ho => ?_⟩
  have e : o = oA := by simpa using ho
  subst e
  decide
theorem tar_ex : Sp Try.prog 16 [roOb [oA], .val (.string ⟨#[47, 97]⟩)] [] (Is (roOb [oA])) := by
  have := targets_fn [oA] ⟨#[47, 97]⟩ shA
  rwa [tarA] at this
set_option maxHeartbeats 4000000 in
theorem awake32_fn : Sp Try.prog 5 [] [] (Is (.val (.bool true))) := by
  refine Sp.enter Try.func5 rfl _ Try.ntmps5 rfl (fun w0 R0 => ?_)
  refine AW.seq ?_
  refine AW.region ?_
  refine AO.op (O.assign rfl rfl) rfl rfl rfl ?_
  refine AO.nil ?_
  refine AQ.thenN ?_
  refine AW.seq ?_
  refine AW.region ?_
  refine AO.op (O.build rfl rfl rfl (by rfl)) rfl rfl rfl ?_
  (refine AO.op (O.callC rfl Try.func11 rfl rfl rfl (reg_ex) (by (repeat (first | exact CoeL.nil | refine CoeL.cons Coe.rfl ?_ | refine CoeL.cons Coe.nil ?_ | refine CoeL.cons (Coe.agg ?_) ?_)); done)) rfl rfl rfl ?_)
  refine AO.op (O.move rfl rfl) rfl rfl rfl ?_
  refine AO.op (O.extract rfl rfl rfl) rfl rfl rfl ?_
  refine AO.op (O.extract rfl rfl rfl) rfl rfl rfl ?_
  refine AO.op (O.assign rfl rfl) rfl rfl rfl ?_
  refine AO.op (O.assign rfl rfl) rfl rfl rfl ?_
  refine AO.nil ?_
  refine AQ.thenN ?_
  refine AW.seq ?_
  refine AW.region ?_
  refine AO.opB (O.buildSlice rfl rfl rfl (by rfl) (by rfl) (by rfl) (by rfl)) rfl rfl rfl ?_
  intro B1
  refine AO.g ?_
  (refine G.freezeSl 0 11 rfl rfl ⟨Nat.le_refl _, by unfold maxLen; omega⟩ ?_)
  refine G.unfull 11 rfl ?_
  refine AO.u ?_
  dsimp only [List.eraseIdx]
  refine AO.op (O.build rfl rfl rfl (by rfl)) rfl rfl rfl ?_
  (refine AO.op (O.callC rfl Try.func21 rfl rfl rfl (watch1_fn) (by (repeat (first | exact CoeL.nil | refine CoeL.cons Coe.rfl ?_ | refine CoeL.cons Coe.nil ?_ | refine CoeL.cons (Coe.agg ?_) ?_)); done)) rfl rfl rfl ?_)
  refine AO.op (O.move rfl rfl) rfl rfl rfl ?_
  refine AO.op (O.extract rfl rfl rfl) rfl rfl rfl ?_
  refine AO.op (O.extract rfl rfl rfl) rfl rfl rfl ?_
  refine AO.opB (O.alloc rfl (by (dsimp only [List.set, List.append, List.cons_append, List.nil_append, roB_cells, roI_cells, roO_cells, splice, ofConst, AV.cells, List.map, List.map_cons, List.map_nil, List.take, List.drop, Nat.zero_add, Nat.add_zero, Nat.reduceAdd, Nat.reduceMul, Nat.zero_mul, Value.cells, List.toList_toArray, zerosA, List.replicate, List.flatten, List.append_nil]; done)) (by rfl)) rfl rfl rfl ?_
  intro B2
  (refine AO.store (i := 0) rfl rfl rfl rfl rfl rfl (by rfl) (by rfl) (by rfl) (by rfl) (by (dsimp only [List.set, List.append, List.cons_append, List.nil_append, roB_cells, roI_cells, roO_cells, splice, ofConst, AV.cells, List.map, List.map_cons, List.map_nil, List.take, List.drop, Nat.zero_add, Nat.add_zero, Nat.reduceAdd, Nat.reduceMul, Nat.zero_mul, Value.cells, List.toList_toArray, zerosA, List.replicate, List.flatten, List.append_nil]; done)) ?_)
  refine AO.op (O.assign rfl rfl) rfl rfl rfl ?_
  refine AO.nil ?_
  refine AQ.thenN ?_
  refine AW.seq ?_
  refine AW.region ?_
  refine AO.op (O.move rfl rfl) rfl rfl rfl ?_
  refine AO.op (O.eql rfl rfl rfl (by exact beq_iff_eq.2 (by omega))) rfl rfl rfl ?_
  refine AO.op (O.move rfl rfl) rfl rfl rfl ?_
  refine AO.opG rfl rfl rfl (fun hp => O.move rfl rfl) ?_
  refine AO.opG rfl rfl rfl (fun hp => OpW.force 19 rfl (by exact hp) (O.eql rfl rfl rfl (by exact beq_iff_eq.2 (by omega)))) ?_
  refine AO.op (O.pickAnd rfl rfl rfl rfl (fun h => by exact h)) rfl rfl rfl ?_
  refine AO.op (O.move rfl rfl) rfl rfl rfl ?_
  refine AO.opG rfl rfl rfl (fun hp => O.move rfl rfl) ?_
  refine AO.opG rfl rfl rfl (fun hp => OpW.force 23 rfl (by exact hp) (O.call rfl Try.func16 rfl rfl rfl (tar_ex))) ?_
  refine AO.opG rfl rfl rfl (fun hp => OpW.force 24 rfl (by exact hp) (O.lenR rfl rfl)) ?_
  refine AO.opG rfl rfl rfl (fun hp => OpW.force 25 rfl (by exact hp) (O.eql rfl rfl rfl (by assumption))) ?_
  refine AO.op (O.pickAnd rfl rfl rfl rfl (fun h => by exact h)) rfl rfl rfl ?_
  refine AO.op (O.move rfl rfl) rfl rfl rfl ?_
  refine AO.opG rfl rfl rfl (fun hp => O.fieldAddr rfl rfl) ?_
  refine AO.opG rfl rfl rfl (fun hp => OpW.force 29 rfl (by exact hp) (O.load rfl rfl (by repeat (exact List.Mem.head _)) (by rfl))) ?_
  refine AO.op (O.pickAnd rfl rfl rfl rfl (fun h => by exact h)) rfl rfl rfl ?_
  refine AO.op (O.move rfl rfl) rfl rfl rfl ?_
  refine AO.opG rfl rfl rfl (fun hp => O.fieldAddr rfl rfl) ?_
  refine AO.opG rfl rfl rfl (fun hp => OpW.force 33 rfl (by exact hp) (O.load rfl rfl (by repeat (exact List.Mem.head _)) (by rfl))) ?_
  refine AO.opG rfl rfl rfl (fun hp => OpW.force 34 rfl (by exact hp) (O.eql rfl rfl rfl (by exact beq_iff_eq.2 (by omega)))) ?_
  refine AO.op (O.pickAnd rfl rfl rfl rfl (fun h => by exact h)) rfl rfl rfl ?_
  refine AO.op (O.assign rfl rfl) rfl rfl rfl ?_
  refine AO.nil ?_
  refine AQ.thenN ?_
  refine AW.ret ?_
  refine AQ.ret1 rfl rfl ⟨_, List.nil_sublist _, .nil⟩ (⟨rfl, rfl⟩)
end Go.Proofs.Ytjgmedmakbjkdaa.By

namespace Go.Proofs.Ytjgmedmakbjkdaa.By
open Go.RowKit L A Dk
set_option linter.unusedVariables false
set_option linter.unusedSimpArgs false
attribute [local irreducible] AW AQ AO
def OTame (o : Obs) : Prop := o.tok.length ≤ 4294967296 ∧ o.ctx.length ≤ 4294967296 ∧ o.kid.length ≤ 4294967296
theorem tame_light {o : Obs} (h : lightB [o] = true) : OTame o := (lightB_short h).1.2 o (List.mem_singleton.2 rfl)
theorem NearO.tame {o : Obs} (h : NearO o) : OTame o := by unfold NearO at h; unfold OTame; omega
theorem kat {ks : List (List Obs)} {k : Nat} (h : k < ks.length) {j : Nat} (hj : j = k) : (ks.map roOb)[j]? = some (roOb (ks.getD k [])) := by subst hj; simp [h]
set_option maxHeartbeats 8000000 in
theorem lawLists_fn (raw : List Obs) (l : List Int) (o : Obs) (peer : Int) (path : ByteArray) (hl : l.length ≤ maxLen) : Sp Try.prog 3 [roOb raw, roI l, aggOb o, .val (.int .i64 peer), .val (.string path)] [] (Is (.val (.bool true))) := by
  refine Sp.enter Try.func3 rfl _ Try.ntmps3 rfl (fun w0 R0 => ?_)
  refine AW.seq ?_
  refine AW.region ?_
  refine AO.opB (O.box rfl rfl rfl rfl rfl) rfl rfl rfl ?_
  intro B1
  refine AO.op (O.assign rfl rfl) rfl rfl rfl ?_
  refine AO.nil ?_
  refine AQ.thenN ?_
  refine AW.seq ?_
  refine AW.seq ?_
  refine AW.region ?_
  refine AO.op (O.move rfl rfl) rfl rfl rfl ?_
  refine AO.op (O.call rfl Try.func4 rfl rfl rfl (light_fn raw)) rfl rfl rfl ?_
  refine AO.op (O.not rfl rfl (by rfl)) rfl rfl rfl ?_
  refine AO.op (O.move rfl rfl) rfl rfl rfl ?_
  (refine AO.opG rfl rfl rfl (fun hp => O.loadK rfl rfl (by repeat (exact List.Mem.head _)) (by (dsimp only [List.set, List.append, List.cons_append, List.nil_append, roB_cells, roI_cells, roO_cells, splice, ofConst, AV.cells, List.map, List.map_cons, List.map_nil, List.take, List.drop, Nat.zero_add, Nat.add_zero, Nat.reduceAdd, Nat.reduceMul, Nat.zero_mul, Value.cells, List.toList_toArray, zerosA, List.replicate, List.flatten, List.append_nil]; done)) (by rfl)) ?_)
  (refine AO.opG rfl rfl rfl (fun hp => OpW.force 29 rfl (by exact hp) (OpW.frz (O.buildSlice rfl rfl rfl (by rfl) (by rfl) (by rfl) (by rfl)) (by (unfold maxLen; omega)))) ?_)
  refine AO.opG rfl rfl rfl (fun hp => OpW.force 30 rfl (by exact hp) (O.call rfl Try.func4 rfl rfl rfl (light_fn [o]))) ?_
  refine AO.opG rfl rfl rfl (fun hp => OpW.force 31 rfl (by exact hp) (O.not rfl rfl (by rfl))) ?_
  refine AO.op (O.pickOr rfl rfl rfl rfl (fun h => by exact congrArg (fun b => !b) h)) rfl rfl rfl ?_
  refine AO.op (O.move rfl rfl) rfl rfl rfl ?_
  refine AO.opG rfl rfl rfl (fun hp => O.move rfl rfl) ?_
  refine AO.opG rfl rfl rfl (fun hp => OpW.force 35 rfl (by exact hp) (O.lenS rfl rfl)) ?_
  refine AO.opG rfl rfl rfl (fun hp => OpW.force 36 rfl (by exact hp) (O.gtr rfl rfl rfl (by rfl))) ?_
  refine AO.op (O.pickOr rfl rfl rfl rfl (fun h => by exact congrArg (fun b => !b) h)) rfl rfl rfl ?_
  refine AO.nil ?_
  refine AQ.thenN ?_
  refine AW.g ?_
  refine G.freezePtr 0 7 rfl rfl ?_
  refine AW.u ?_
  dsimp only [List.eraseIdx]
  refine AW.split rfl (fun h => ?_) (fun h => ?_) <;> (try simp only [decide_eq_true_eq, decide_eq_false_iff_not, beq_iff_eq, beq_eq_false_iff_ne, bne_iff_ne, bne_eq_false_iff_eq, Bool.not_eq_true', Bool.not_eq_false', Bool.not_eq_true, Bool.not_eq_false, ne_eq, Int.not_lt, Int.not_le, Bool.and_eq_true, Bool.or_eq_true, Bool.or_eq_false_iff, Bool.and_eq_false_imp, strOf_toList, Decidable.not_not] at h)
  · skip
    refine AW.seq ?_
    refine AW.region ?_
    refine AO.op (O.call rfl Try.func5 rfl rfl rfl (awake32_fn)) rfl rfl rfl ?_
    refine AO.op (O.assign rfl rfl) rfl rfl rfl ?_
    refine AO.nil ?_
    refine AQ.thenN ?_
    refine AW.ret ?_
    refine AQ.thenR ?_
    refine AQ.ret1 rfl rfl ⟨_, List.nil_sublist _, .nil⟩ (⟨rfl, rfl⟩)
  · skip
    refine AW.skip ?_
    refine AQ.thenN ?_
    refine AW.seq ?_
    refine AW.region ?_
    refine AO.op (O.move rfl rfl) rfl rfl rfl ?_
    refine AO.opB (O.call rfl Try.func6 rfl rfl rfl (new_fn _)) rfl rfl rfl ?_
    intro B2
    refine AO.op (O.assign rfl rfl) rfl rfl rfl ?_
    refine AO.nil ?_
    refine AQ.thenN ?_
    refine AW.seq ?_
    refine AW.region ?_
    refine AO.op (O.move rfl rfl) rfl rfl rfl ?_
    refine AO.callMG 0 rfl rfl Try.func7 rfl rfl rfl rfl rfl rfl (list_any _ l _ hl (by exact Nat.zero_le _)) ?_
    rintro _ _ ⟨⟨x3, ⟨hxl3, hxn3⟩, rfl⟩, kd3, hkd3, rfl⟩
    dsimp only [List.cons_append, List.nil_append, List.eraseIdx]
    refine AO.op (O.assign rfl rfl) rfl rfl rfl ?_
    refine AO.nil ?_
    refine AQ.thenN ?_
    refine AW.seq ?_
    refine AW.seq ?_
    refine AW.region ?_
    refine AO.op (O.move rfl rfl) rfl rfl rfl ?_
    refine AO.op (O.move rfl rfl) rfl rfl rfl ?_
    refine AO.op (O.move rfl rfl) rfl rfl rfl ?_
    refine AO.opRow (O.appendNil rfl (by rfl) (by rfl) rfl rfl (by exact SrcA.ro TyD.ax (by (simp; done)) (Nat.le_of_ble_eq_true rfl)) (by exact obsA_one _) (by (unfold maxLen; omega)) (by omega)) rfl rfl rfl ?_
    intro V4 hV4
    refine AO.op (O.move rfl rfl) rfl rfl rfl ?_
    (refine AO.append' (i := 0) rfl rfl rfl rfl (by rfl) (by rfl) rfl rfl rfl (by exact SrcA.ro TyD.ax (by (simp; done)) (Nat.le_of_ble_eq_true rfl)) (by exact obsA_one _) (by (unfold maxLen; omega)) (by omega) (by (dsimp only [List.set, List.append, List.cons_append, List.nil_append, roB_cells, roI_cells, roO_cells, splice, ofConst, AV.cells, List.map, List.map_cons, List.map_nil, List.take, List.drop, Nat.zero_add, Nat.add_zero, Nat.reduceAdd, Nat.reduceMul, Nat.zero_mul, Value.cells, List.toList_toArray, zerosA, List.replicate, List.flatten, List.append_nil]; done)) (fun _ => by (dsimp only [List.set]; done)) ?_)
    intro V5 hV5
    refine AO.g ?_
    refine G.freezeRow 0 rfl [49] (by repeat (first | exact frNil | refine frCons rfl ?_)) ?_
    refine AO.u ?_
    dsimp only [List.map, List.eraseIdx, List.cons_append, List.nil_append]
    refine AO.opB (O.buildSliceF rfl rfl rfl (by rfl) (by rfl) (by rfl) (by rfl) (by rfl)) rfl rfl rfl ?_
    intro B6
    refine AO.g ?_
    (refine G.freezeSl 0 50 rfl rfl ⟨Nat.le_refl _, by unfold maxLen; omega⟩ ?_)
    refine G.unfull 50 rfl ?_
    refine AO.u ?_
    dsimp only [List.eraseIdx]
    refine AO.op (O.lenR rfl rfl) rfl rfl rfl ?_
    refine AO.op (O.move rfl rfl) rfl rfl rfl ?_
    refine AO.nil ?_
    refine AQ.thenN ?_
    refine AW.block ?_
    have hs1 : ShortOb raw := (lightB_short h.1.1).1
    have hs2 : ShortOb x3 := NearL.short ⟨hxl3, hxn3⟩
    have hs3 : ShortOb (x3 ++ x3) := ⟨by rw [List.length_append]; omega, fun q hq => (List.mem_append.1 hq).elim (hs2.2 q) (hs2.2 q)⟩
    obtain ⟨ks, hks⟩ : ∃ ks : List (List Obs), ks = [raw, x3, x3 ++ x3] := ⟨_, rfl⟩
    have hkl : ks.length = 3 := by rw [hks]; rfl
    have hka : ∀ i, i < 3 → ShortOb (ks.getD i []) := by
      intro i hi
      rw [hks]
      match i, hi with
      | 0, _ => exact hs1
      | 1, _ => exact hs2
      | 2, _ => exact hs3
    have ho1 : OTame o := tame_light h.1.2
    refine AW.g ?_
    refine G.re 50 (.ro false 3 (ks.map roOb)) (congrArg some (by rw [hks]; show AV.ro false 3 [_, _, _] = AV.ro false 3 [_, _, _]; rw [show roOb (x3 ++ x3) = AV.ro false (x3.length + x3.length) (obsA x3 ++ obsA x3) from (roOb_of (by rw [List.length_append]) (by rw [obsA_app])).symm])) ?_
    refine AW.u ?_
    refine AW.loopK [(3, _), (4, _), (7, _), (11, _), (50, _), (51, _)] (fun nn E H => ∃ (k : Nat) (kk : Nat), (k ≤ 3) ∧ (kk ≤ l.length) ∧ nn = 3 - k ∧ E = [(52, .val (.int .i64 (k : Int)))] ∧ H = [deck B2 l kk]) _ (⟨0, _, by omega, by assumption, rfl, rfl, rfl⟩) (by repeat (first | exact envNil | refine envCons rfl ?_)) (by repeat (first | exact envNil | refine envCons rfl ?_)) (by repeat (first | exact subPnil | refine subPcons 0 rfl ?_)) ?_
    rintro nn E H ⟨k, kk, hk, hkk, rfl, rfl, rfl⟩
    dsimp only [List.cons_append, List.nil_append]
    have hsk : ShortOb (ks.getD k []) ∨ ¬ k < 3 := by
      rcases Nat.lt_or_ge k 3 with h3 | h3
      · exact .inl (hka k h3)
      · exact .inr (by omega)
    refine AW.seq ?_
    refine AW.region ?_
    refine AO.op (O.lss rfl rfl rfl (by rfl)) rfl rfl rfl ?_
    refine AO.nil ?_
    refine AQ.thenN ?_
    refine AW.seq ?_
    refine AW.split rfl (fun hlt => ?_) (fun hlt => ?_) <;> (try simp only [decide_eq_true_eq, decide_eq_false_iff_not, beq_iff_eq, beq_eq_false_iff_ne, bne_iff_ne, bne_eq_false_iff_eq, Bool.not_eq_true', Bool.not_eq_false', Bool.not_eq_true, Bool.not_eq_false, ne_eq, Int.not_lt, Int.not_le, Bool.and_eq_true, Bool.or_eq_true, Bool.or_eq_false_iff, Bool.and_eq_false_imp, strOf_toList, Decidable.not_not] at hlt)
    · skip
      have hk3 : k < 3 := by omega
      have hsh : ShortOb (ks.getD k []) := hka k hk3
      have hlen := hsh.1
      obtain ⟨os, hos⟩ : ∃ os, os = ks.getD k [] := ⟨_, rfl⟩
      have hget : (ks.map roOb)[Int.toNat (k : Int) * 1]? = some (roOb os) := by rw [hos]; exact kat (by omega) (by omega)
      rw [← hos] at hsh hlen
      refine AW.skip ?_
      refine AQ.thenN ?_
      refine AW.seq ?_
      refine AW.block ?_
      refine AW.seq ?_
      refine AW.region ?_
      refine AO.op (O.idxR rfl rfl rfl ⟨(by omega), (by omega)⟩) rfl rfl rfl ?_
      refine AO.op (O.loadR rfl rfl (by assumption)) rfl rfl rfl ?_
      refine AO.op (O.assign rfl rfl) rfl rfl rfl ?_
      refine AO.nil ?_
      refine AQ.thenN ?_
      refine AW.seq ?_
      refine AW.seq ?_
      refine AW.region ?_
      refine AO.op (O.move rfl rfl) rfl rfl rfl ?_
      refine AO.op (O.call rfl Try.func8 rfl rfl rfl (nvalid_fn os hlen)) rfl rfl rfl ?_
      refine AO.op (O.move rfl rfl) rfl rfl rfl ?_
      refine AO.op (O.call rfl Try.func9 rfl rfl rfl (rnvalid_fn os hlen)) rfl rfl rfl ?_
      refine AO.op (O.neqB rfl rfl rfl (by rfl)) rfl rfl rfl ?_
      refine AO.nil ?_
      refine AQ.thenN ?_
      refine AW.split rfl (fun hv => ?_) (fun hv => ?_)
      · skip
        simp at hv
      · skip
        refine AW.skip ?_
        refine AQ.thenN ?_
        refine AW.seq ?_
        refine AW.regionM [(0, false), (1, false), (5, false), (2, true), (3, false), (4, false)] (by kernel_rfl) (by kernel_rfl) (by exact (by exact splitBlk 11 0 rfl rfl splitNil)) ?_
        dsimp only [List.eraseIdx]
        (refine AM.op rfl (O.loadRK rfl rfl (by (dsimp only [List.set, List.append, List.cons_append, List.nil_append, roB_cells, roI_cells, roO_cells, splice, ofConst, AV.cells, List.map, List.map_cons, List.map_nil, List.take, List.drop, Nat.zero_add, Nat.add_zero, Nat.reduceAdd, Nat.reduceMul, Nat.zero_mul, Value.cells, List.toList_toArray, zerosA, List.replicate, List.flatten, List.append_nil]; done)) (by rfl)) rfl rfl rfl ?_)
        refine AM.op rfl (O.move rfl rfl) rfl rfl rfl ?_
        refine AM.op rfl (O.move rfl rfl) rfl rfl rfl ?_
        refine AM.main _ rfl (fun w0 R0 => ?_)
        refine AO.callMG 0 rfl rfl Try.func10 rfl rfl rfl rfl rfl rfl (observer_any _ l _ hl (by assumption)) ?_
        rintro _ _ ⟨⟨y7, hy7, rfl⟩, kd7, hkd7, rfl⟩
        dsimp only [List.cons_append, List.nil_append, List.eraseIdx]
        refine AM.ok ?_
        dsimp only [putE]
        refine AM.op rfl (OpW.frz (O.buildSliceF rfl rfl rfl (by rfl) (by rfl) (by rfl) (by rfl) (by rfl)) (by (unfold maxLen; omega))) rfl rfl rfl ?_
        refine AM.op rfl (O.lenR rfl rfl) rfl rfl rfl ?_
        refine AM.nil ?_
        dsimp only [List.cons_append, List.nil_append]
        refine AQ.thenN ?_
        refine AW.block ?_
        obtain ⟨ys, hys⟩ : ∃ ys : List Obs, ys = [o, y7] := ⟨_, rfl⟩
        have hyl : ys.length = 2 := by rw [hys]; rfl
        have hyt : ∀ i, i < 2 → OTame (obat ys i) := by
          intro i hi
          rw [hys]
          match i, hi with
          | 0, _ => exact ho1
          | 1, _ => exact hy7.tame
        refine AW.g ?_
        refine G.re 64 (.ro false 2 (obsA ys)) (congrArg some (by rw [hys]; rfl)) ?_
        refine AW.u ?_
        refine AW.loopK [(3, _), (4, _), (7, _), (11, _), (14, _), (50, _), (51, _), (52, _), (64, _), (65, _)] (fun nn E H => ∃ (j : Nat), (j ≤ 2) ∧ nn = 2 - j ∧ E = [(66, .val (.int .i64 (j : Int)))] ∧ H = [deck B2 l kd7]) _ (⟨0, by omega, rfl, rfl, rfl⟩) (by repeat (first | exact envNil | refine envCons rfl ?_)) (by repeat (first | exact envNil | refine envCons rfl ?_)) (by repeat (first | exact subPnil | refine subPcons 0 rfl ?_)) ?_
        rintro nn E H ⟨j, hj, rfl, rfl, rfl⟩
        dsimp only [List.cons_append, List.nil_append]
        refine AW.seq ?_
        refine AW.region ?_
        refine AO.op (O.lss rfl rfl rfl (by rfl)) rfl rfl rfl ?_
        refine AO.nil ?_
        refine AQ.thenN ?_
        refine AW.seq ?_
        refine AW.split rfl (fun hlt2 => ?_) (fun hlt2 => ?_) <;> (try simp only [decide_eq_true_eq, decide_eq_false_iff_not, beq_iff_eq, beq_eq_false_iff_ne, bne_iff_ne, bne_eq_false_iff_eq, Bool.not_eq_true', Bool.not_eq_false', Bool.not_eq_true, Bool.not_eq_false, ne_eq, Int.not_lt, Int.not_le, Bool.and_eq_true, Bool.or_eq_true, Bool.or_eq_false_iff, Bool.and_eq_false_imp, strOf_toList, Decidable.not_not] at hlt2)
        · skip
          have hj2 : j < 2 := by omega
          obtain ⟨hy1, hy2, hy3⟩ := hyt j hj2
          have hgy := getOb (os := ys) (k := j) (by omega) (j := Int.toNat (j : Int)) (by omega)
          obtain ⟨y, hy⟩ : ∃ y, y = obat ys j := ⟨_, rfl⟩
          rw [← hy] at hy1 hy2 hy3 hgy
          have hfil : ∀ K : Obs → Bool, (os.filter K).length ≤ 1000000 := fun K => Nat.le_trans (List.length_filter_le K os) hlen
          have hreg : (regR os y).1.length ≤ 1000000 := by
            unfold regR
            split
            · split
              · simp
              · have := List.length_filter_le (fun x => !meetsB x y) os
                rw [List.length_append]; simp only [List.length_cons, List.length_nil]; omega
            · simp
          refine AW.skip ?_
          refine AQ.thenN ?_
          refine AW.seq ?_
          refine AW.block ?_
          refine AW.seq ?_
          refine AW.region ?_
          refine AO.op (O.idxR rfl rfl rfl ⟨(by omega), (by omega)⟩) rfl rfl rfl ?_
          refine AO.op (O.loadRK rfl rfl (by exact hgy) (by rfl)) rfl rfl rfl ?_
          refine AO.opB (O.alloc rfl (by (dsimp only [List.set, List.append, List.cons_append, List.nil_append, roB_cells, roI_cells, roO_cells, splice, ofConst, AV.cells, List.map, List.map_cons, List.map_nil, List.take, List.drop, Nat.zero_add, Nat.add_zero, Nat.reduceAdd, Nat.reduceMul, Nat.zero_mul, Value.cells, List.toList_toArray, zerosA, List.replicate, List.flatten, List.append_nil]; done)) (by rfl)) rfl rfl rfl ?_
          intro B8
          (refine AO.store (i := 0) rfl rfl rfl rfl rfl rfl (by rfl) (by rfl) (by rfl) (by (dsimp only [List.set, List.append, List.cons_append, List.nil_append, roB_cells, roI_cells, roO_cells, splice, ofConst, AV.cells, List.map, List.map_cons, List.map_nil, List.take, List.drop, Nat.zero_add, Nat.add_zero, Nat.reduceAdd, Nat.reduceMul, Nat.zero_mul, Value.cells, List.toList_toArray, zerosA, List.replicate, List.flatten, List.append_nil]; done)) (by (dsimp only [List.set, List.append, List.cons_append, List.nil_append, roB_cells, roI_cells, roO_cells, splice, ofConst, AV.cells, List.map, List.map_cons, List.map_nil, List.take, List.drop, Nat.zero_add, Nat.add_zero, Nat.reduceAdd, Nat.reduceMul, Nat.zero_mul, Value.cells, List.toList_toArray, zerosA, List.replicate, List.flatten, List.append_nil]; done)) ?_)
          refine AO.nil ?_
          refine AQ.thenN ?_
          refine AW.seq ?_
          refine AW.region ?_
          refine AO.op (O.move rfl rfl) rfl rfl rfl ?_
          refine AO.op (O.loadK rfl rfl (by repeat (exact List.Mem.head _)) (by rfl) (by rfl)) rfl rfl rfl ?_
          refine AO.op (O.call rfl Try.func11 rfl rfl rfl (register_fn os y hsh hy1 hy2 hy3)) rfl rfl rfl ?_
          refine AO.op (O.move rfl rfl) rfl rfl rfl ?_
          refine AO.op (O.extract rfl rfl rfl) rfl rfl rfl ?_
          refine AO.op (O.extract rfl rfl rfl) rfl rfl rfl ?_
          refine AO.op (O.assign rfl rfl) rfl rfl rfl ?_
          refine AO.op (O.assign rfl rfl) rfl rfl rfl ?_
          refine AO.nil ?_
          refine AQ.thenN ?_
          refine AW.seq ?_
          refine AW.region ?_
          refine AO.op (O.move rfl rfl) rfl rfl rfl ?_
          refine AO.op (O.loadK rfl rfl (by repeat (exact List.Mem.head _)) (by rfl) (by rfl)) rfl rfl rfl ?_
          refine AO.op (O.call rfl Try.func12 rfl rfl rfl (rregister_fn os y hsh)) rfl rfl rfl ?_
          refine AO.op (O.move rfl rfl) rfl rfl rfl ?_
          refine AO.op (O.extract rfl rfl rfl) rfl rfl rfl ?_
          refine AO.op (O.extract rfl rfl rfl) rfl rfl rfl ?_
          refine AO.op (O.assign rfl rfl) rfl rfl rfl ?_
          refine AO.op (O.assign rfl rfl) rfl rfl rfl ?_
          refine AO.nil ?_
          refine AQ.thenN ?_
          refine AW.seq ?_
          refine AW.seq ?_
          refine AW.region ?_
          refine AO.op (O.move rfl rfl) rfl rfl rfl ?_
          refine AO.op (O.move rfl rfl) rfl rfl rfl ?_
          refine AO.op (O.neq rfl rfl rfl (by exact bne_eq_false_iff_eq.2 (by omega))) rfl rfl rfl ?_
          refine AO.op (O.move rfl rfl) rfl rfl rfl ?_
          refine AO.opG rfl rfl rfl (fun hp => O.move rfl rfl) ?_
          refine AO.opG rfl rfl rfl (fun hp => O.move rfl rfl) ?_
          refine AO.opG rfl rfl rfl (fun hp => OpW.force 86 rfl (by exact hp) (OpW.force 87 rfl (by exact hp) (O.call rfl Try.func13 rfl rfl rfl (sameobs_fn _ (by exact hreg))))) ?_
          refine AO.opG rfl rfl rfl (fun hp => OpW.force 88 rfl (by exact hp) (O.not rfl rfl (by rfl))) ?_
          refine AO.op (O.pickOr rfl rfl rfl rfl (fun h => by exact congrArg (fun b => !b) h)) rfl rfl rfl ?_
          refine AO.nil ?_
          refine AQ.thenN ?_
          refine AW.split rfl (fun h90 => ?_) (fun h90 => ?_)
          · skip
            simp at h90
          · skip
            refine AW.skip ?_
            refine AQ.thenN ?_
            refine AW.seq ?_
            refine AW.seq ?_
            refine AW.region ?_
            refine AO.op (O.move rfl rfl) rfl rfl rfl ?_
            refine AO.op (O.call rfl Try.func9 rfl rfl rfl (rnvalid_fn os hlen)) rfl rfl rfl ?_
            refine AO.op (O.not rfl rfl (by rfl)) rfl rfl rfl ?_
            refine AO.nil ?_
            refine AQ.thenN ?_
            refine AW.split rfl (fun h93 => ?_) (fun h93 => ?_) <;> (try simp only [decide_eq_true_eq, decide_eq_false_iff_not, beq_iff_eq, beq_eq_false_iff_ne, bne_iff_ne, bne_eq_false_iff_eq, Bool.not_eq_true', Bool.not_eq_false', Bool.not_eq_true, Bool.not_eq_false, ne_eq, Int.not_lt, Int.not_le, Bool.and_eq_true, Bool.or_eq_true, Bool.or_eq_false_iff, Bool.and_eq_false_imp, strOf_toList, Decidable.not_not] at h93)
            · skip
              refine AW.exit ?_
              refine AQ.thenX ?_
              refine AQ.blockX rfl ?_
              refine AQ.thenN ?_
              refine AW.region ?_
              refine AO.op (O.add rfl rfl rfl (by exact wI64 (by omega))) rfl rfl rfl ?_
              refine AO.op (O.move rfl rfl) rfl rfl rfl ?_
              refine AO.nil ?_
              refine AQ.loopKN _ _ _ (by omega) (⟨j + 1, by omega, rfl, rfl, rfl⟩) (by repeat (first | exact envNil | refine envCons rfl ?_)) (by repeat (first | exact envNil | refine envCons rfl ?_)) (by repeat (first | exact subPnil | refine subPcons 1 rfl ?_))
            · skip
              refine AW.g ?_
              refine G.freezePtr 0 16 rfl rfl ?_
              refine AW.u ?_
              dsimp only [List.eraseIdx]
              refine AW.skip ?_
              refine AQ.thenN ?_
              refine AW.seq ?_
              refine AW.region ?_
              refine AO.op (O.move rfl rfl) rfl rfl rfl ?_
              refine AO.op (O.fieldAddrR rfl rfl) rfl rfl rfl ?_
              refine AO.op (O.loadR rfl rfl (by rfl)) rfl rfl rfl ?_
              refine AO.op (O.fieldAddrR rfl rfl) rfl rfl rfl ?_
              refine AO.op (O.loadR rfl rfl (by rfl)) rfl rfl rfl ?_
              refine AO.op (O.call rfl Try.func14 rfl rfl rfl (cancel_fn os _ _ hsh)) rfl rfl rfl ?_
              refine AO.op (O.move rfl rfl) rfl rfl rfl ?_
              refine AO.op (O.extract rfl rfl rfl) rfl rfl rfl ?_
              refine AO.op (O.extract rfl rfl rfl) rfl rfl rfl ?_
              refine AO.op (O.assign rfl rfl) rfl rfl rfl ?_
              refine AO.op (O.assign rfl rfl) rfl rfl rfl ?_
              refine AO.nil ?_
              refine AQ.thenN ?_
              refine AW.seq ?_
              refine AW.region ?_
              refine AO.op (O.move rfl rfl) rfl rfl rfl ?_
              refine AO.op (O.fieldAddrR rfl rfl) rfl rfl rfl ?_
              refine AO.op (O.loadR rfl rfl (by rfl)) rfl rfl rfl ?_
              refine AO.op (O.fieldAddrR rfl rfl) rfl rfl rfl ?_
              refine AO.op (O.loadR rfl rfl (by rfl)) rfl rfl rfl ?_
              refine AO.op (O.call rfl Try.func15 rfl rfl rfl (rcancel_fn os _ _ hsh)) rfl rfl rfl ?_
              refine AO.op (O.move rfl rfl) rfl rfl rfl ?_
              refine AO.op (O.extract rfl rfl rfl) rfl rfl rfl ?_
              refine AO.op (O.extract rfl rfl rfl) rfl rfl rfl ?_
              refine AO.op (O.assign rfl rfl) rfl rfl rfl ?_
              refine AO.op (O.assign rfl rfl) rfl rfl rfl ?_
              refine AO.nil ?_
              refine AQ.thenN ?_
              refine AW.seq ?_
              refine AW.regionD 53 (by kernel_rfl) (by kernel_rfl) ?_
              simp only [List.take_succ_cons, List.take_zero, List.drop_succ_cons, List.drop_zero]
              refine FA.op (O.move rfl rfl) rfl rfl rfl rfl ?_
              refine FA.op (O.move rfl rfl) rfl rfl rfl rfl ?_
              refine FA.op (O.neqB rfl rfl rfl (by rfl)) rfl rfl rfl rfl ?_
              refine FA.op (O.move rfl rfl) rfl rfl rfl rfl ?_
              refine FA.opG rfl rfl rfl rfl (fun hp => O.move rfl rfl) ?_
              refine FA.opG rfl rfl rfl rfl (fun hp => O.move rfl rfl) ?_
              refine FA.opG rfl rfl rfl rfl (fun hp => OpW.force 116 rfl (by exact hp) (OpW.force 117 rfl (by exact hp) (O.call rfl Try.func13 rfl rfl rfl (sameobs_fn _ (by exact hfil _))))) ?_
              refine FA.opG rfl rfl rfl rfl (fun hp => OpW.force 118 rfl (by exact hp) (O.not rfl rfl (by assumption))) ?_
              refine FA.op (O.pickOr rfl rfl rfl rfl (fun h => by exact congrArg (fun b => !b) h)) rfl rfl rfl rfl ?_
              refine FA.op (O.move rfl rfl) rfl rfl rfl rfl ?_
              refine FA.opG rfl rfl rfl rfl (fun hp => O.move rfl rfl) ?_
              refine FA.opG rfl rfl rfl rfl (fun hp => O.fieldAddrR rfl rfl) ?_
              refine FA.opG rfl rfl rfl rfl (fun hp => OpW.force 123 rfl (by exact hp) (O.loadR rfl rfl (by rfl))) ?_
              refine FA.opG rfl rfl rfl rfl (fun hp => OpW.force 122 rfl (by exact hp) (OpW.force 124 rfl (by exact hp) (O.call rfl Try.func16 rfl rfl rfl (targets_fn os _ hsh)))) ?_
              refine FA.opG rfl rfl rfl rfl (fun hp => O.move rfl rfl) ?_
              refine FA.opG rfl rfl rfl rfl (fun hp => O.fieldAddrR rfl rfl) ?_
              refine FA.opG rfl rfl rfl rfl (fun hp => OpW.force 127 rfl (by exact hp) (O.loadR rfl rfl (by rfl))) ?_
              refine FA.opG rfl rfl rfl rfl (fun hp => OpW.force 126 rfl (by exact hp) (OpW.force 128 rfl (by exact hp) (O.call rfl Try.func17 rfl rfl rfl (rtargets_fn os _ hsh)))) ?_
              refine FA.opG rfl rfl rfl rfl (fun hp => OpW.force 125 rfl (by exact hp) (OpW.force 129 rfl (by exact hp) (O.call rfl Try.func13 rfl rfl rfl (sameobs_fn _ (by exact hfil _))))) ?_
              refine FA.opG rfl rfl rfl rfl (fun hp => OpW.force 130 rfl (by exact hp) (O.not rfl rfl (by assumption))) ?_
              refine FA.op (O.pickOr rfl rfl rfl rfl (fun h => by exact congrArg (fun b => !b) h)) rfl rfl rfl rfl ?_
              refine FA.op (O.move rfl rfl) rfl rfl rfl rfl ?_
              refine FA.opG rfl rfl rfl rfl (fun hp => O.move rfl rfl) ?_
              refine FA.opG rfl rfl rfl rfl (fun hp => O.move rfl rfl) ?_
              refine FA.opG rfl rfl rfl rfl (fun hp => OpW.force 134 rfl (by exact hp) (OpW.force 135 rfl (by exact hp) (O.call rfl Try.func16 rfl rfl rfl (targets_fn os _ hsh)))) ?_
              refine FA.opG rfl rfl rfl rfl (fun hp => O.move rfl rfl) ?_
              refine FA.opG rfl rfl rfl rfl (fun hp => O.move rfl rfl) ?_
              refine FA.opG rfl rfl rfl rfl (fun hp => OpW.force 137 rfl (by exact hp) (OpW.force 138 rfl (by exact hp) (O.call rfl Try.func17 rfl rfl rfl (rtargets_fn os _ hsh)))) ?_
              refine FA.opG rfl rfl rfl rfl (fun hp => OpW.force 136 rfl (by exact hp) (OpW.force 139 rfl (by exact hp) (O.call rfl Try.func13 rfl rfl rfl (sameobs_fn _ (by exact hfil _))))) ?_
              refine FA.opG rfl rfl rfl rfl (fun hp => OpW.force 140 rfl (by exact hp) (O.not rfl rfl (by assumption))) ?_
              refine FA.op (O.pickOr rfl rfl rfl rfl (fun h => by exact congrArg (fun b => !b) h)) rfl rfl rfl rfl ?_
              refine FA.op (O.move rfl rfl) rfl rfl rfl rfl ?_
              refine FA.opG rfl rfl rfl rfl (fun hp => O.move rfl rfl) ?_
              refine FA.opG rfl rfl rfl rfl (fun hp => O.move rfl rfl) ?_
              refine FA.opG rfl rfl rfl rfl (fun hp => OpW.force 144 rfl (by exact hp) (OpW.force 145 rfl (by exact hp) (O.call rfl Try.func18 rfl rfl rfl (forget_fn os _ hsh)))) ?_
              refine FA.opG rfl rfl rfl rfl (fun hp => O.move rfl rfl) ?_
              refine FA.opG rfl rfl rfl rfl (fun hp => O.move rfl rfl) ?_
              refine FA.opG rfl rfl rfl rfl (fun hp => OpW.force 147 rfl (by exact hp) (OpW.force 148 rfl (by exact hp) (O.call rfl Try.func19 rfl rfl rfl (rforget_fn os _ hsh)))) ?_
              refine FA.opG rfl rfl rfl rfl (fun hp => OpW.force 146 rfl (by exact hp) (OpW.force 149 rfl (by exact hp) (O.call rfl Try.func13 rfl rfl rfl (sameobs_fn _ (by exact hfil _))))) ?_
              refine FA.opG rfl rfl rfl rfl (fun hp => OpW.force 150 rfl (by exact hp) (O.not rfl rfl (by assumption))) ?_
              refine FA.op (O.pickOr rfl rfl rfl rfl (fun h => by exact congrArg (fun b => !b) h)) rfl rfl rfl rfl ?_
              refine FA.op (O.move rfl rfl) rfl rfl rfl rfl ?_
              refine FA.opG rfl rfl rfl rfl (fun hp => O.move rfl rfl) ?_
              refine FA.opG rfl rfl rfl rfl (fun hp => O.fieldAddrR rfl rfl) ?_
              refine FA.opG rfl rfl rfl rfl (fun hp => OpW.force 155 rfl (by exact hp) (O.loadR rfl rfl (by rfl))) ?_
              refine FA.opG rfl rfl rfl rfl (fun hp => OpW.force 154 rfl (by exact hp) (OpW.force 156 rfl (by exact hp) (O.call rfl Try.func18 rfl rfl rfl (forget_fn os _ hsh)))) ?_
              refine FA.opG rfl rfl rfl rfl (fun hp => O.move rfl rfl) ?_
              refine FA.opG rfl rfl rfl rfl (fun hp => O.fieldAddrR rfl rfl) ?_
              refine FA.opG rfl rfl rfl rfl (fun hp => OpW.force 159 rfl (by exact hp) (O.loadR rfl rfl (by rfl))) ?_
              refine FA.opG rfl rfl rfl rfl (fun hp => OpW.force 158 rfl (by exact hp) (OpW.force 160 rfl (by exact hp) (O.call rfl Try.func19 rfl rfl rfl (rforget_fn os _ hsh)))) ?_
              refine FA.opG rfl rfl rfl rfl (fun hp => OpW.force 157 rfl (by exact hp) (OpW.force 161 rfl (by exact hp) (O.call rfl Try.func13 rfl rfl rfl (sameobs_fn _ (by exact hfil _))))) ?_
              refine FA.opG rfl rfl rfl rfl (fun hp => OpW.force 162 rfl (by exact hp) (O.not rfl rfl (by assumption))) ?_
              refine FA.op (O.pickOr rfl rfl rfl rfl (fun h => by exact congrArg (fun b => !b) h)) rfl rfl rfl rfl ?_
              refine FA.nil ?_
              simp only [chosen, List.nil_append, List.cons_append, List.append_nil]
              refine AO.nil ?_
              refine AQ.thenN ?_
              refine AW.split rfl (fun h164 => ?_) (fun h164 => ?_)
              · skip
                simp at h164
              · skip
                refine AW.skip ?_
                refine AQ.blockN ?_
                refine AQ.thenN ?_
                refine AW.region ?_
                refine AO.op (O.add rfl rfl rfl (by exact wI64 (by omega))) rfl rfl rfl ?_
                refine AO.op (O.move rfl rfl) rfl rfl rfl ?_
                refine AO.nil ?_
                refine AQ.loopKN _ _ _ (by omega) (⟨j + 1, by omega, rfl, rfl, rfl⟩) (by repeat (first | exact envNil | refine envCons rfl ?_)) (by repeat (first | exact envNil | refine envCons rfl ?_)) (by repeat (first | exact subPnil | refine subPcons 0 rfl ?_))
        · skip
          refine AW.exit ?_
          refine AQ.thenX ?_
          refine AQ.loopX ?_
          refine AQ.blockX rfl ?_
          refine AQ.blockN ?_
          refine AQ.thenN ?_
          refine AW.region ?_
          refine AO.op (O.add rfl rfl rfl (by exact wI64 (by omega))) rfl rfl rfl ?_
          refine AO.op (O.move rfl rfl) rfl rfl rfl ?_
          refine AO.nil ?_
          refine AQ.loopKN _ _ _ (by omega) (⟨k + 1, kd7, by omega, hkd7, rfl, rfl, rfl⟩) (by repeat (first | exact envNil | refine envCons rfl ?_)) (by repeat (first | exact envNil | refine envCons rfl ?_)) (by repeat (first | exact subPnil | refine subPcons 0 rfl ?_))
    · skip
      refine AW.exit ?_
      refine AQ.thenX ?_
      refine AQ.loopX ?_
      refine AQ.blockX rfl ?_
      refine AQ.thenN ?_
      refine AW.seq ?_
      refine AW.region ?_
      refine AO.op (O.call rfl Try.func5 rfl rfl rfl (awake32_fn)) rfl rfl rfl ?_
      refine AO.op (O.assign rfl rfl) rfl rfl rfl ?_
      refine AO.nil ?_
      refine AQ.thenN ?_
      refine AW.ret ?_
      refine AQ.ret1 rfl rfl ⟨_, List.nil_sublist _, .nil⟩ (⟨rfl, rfl⟩)
end Go.Proofs.Ytjgmedmakbjkdaa.By

namespace Go.Proofs.Ytjgmedmakbjkdaa.A
open Go.ChangeShapes Go.WideShapes Go.ChangeAt Go.RowKit Go.Deep L
set_option linter.unusedVariables false
set_option linter.unusedSimpArgs false

theorem own : ownKnob Try.prog.godebug = none := by kernel_rfl
theorem kids : Kids Try.prog (· < Try.prog.types.size) := kids_rows (by kernel_rfl) (by kernel_rfl)
theorem full : ∀ t e, t < Try.prog.types.size → Try.prog.underlying t = some (.slice e) → 0 < Try.prog.cellsOf e := slices_full_of Try.prog (by kernel_rfl)

theorem sameAt_ext {W W' : World} (h : Ext W W') (p : MemPlace) (hp : p.block < W.heap.size) : W.sameAt W' p := by
  have hb : W'.heap[p.block]? = W.heap[p.block]? := h.block _ hp (fun hh => hh)
  cases p with
  | cell b off => exact World.cell?_of_block (w := W) (a := ⟨b, off, none⟩) hb
  | map b => exact hb

section
variable {H : Type} {enc : TypeId × Value → H}
theorem trodAll_carry {P : Program} {W W' : World} {base : Nat} {spare : Nat → Bool} {held : Bool} : ∀ {ts : List TypeId} {vs : List Value} {ds : List (DataW H)} {ps : List MemPlace},
    DataW.TrodAll enc P W base spare held ts vs ds ps → (∀ p ∈ ps, W.sameAt W' p) → DataW.TrodAll enc P W' base spare held ts vs ds ps
  | [], [], [], _, h, _ => h
  | _ :: _, _ :: _, _ :: _, _, ⟨p, q, ⟨n, h1⟩, h2, e⟩, hs => ⟨p, q, ⟨n, DataW.trod_carry n _ _ _ h1 (fun x hx => hs x (by rw [e]; exact List.mem_append_left _ hx))⟩, trodAll_carry h2 (fun x hx => hs x (by rw [e]; exact List.mem_append_right _ hx)), e⟩

/-- A law: it returned true, and nothing that was there has turned. -/
theorem lawPost {fn : Func} {s : ChangeSpec} {W W' : World} {args : Array Value} {ds gs : List (DataW H)} {before : List MemPlace} {bt : TypeId}
    (hW : DataW.Whole enc Try.prog fn.params.toList s.vars false W args.toList ds gs before) (hv : s.vars = []) (hfn : s.fn H (ds ++ gs) = { results := [.lit (.bool true)], args := ds }) (hres : fn.resultTypes = #[bt]) (hbt : Try.prog.underlying bt = some .bool)
    (hpar : ∀ t ∈ fn.params.toList, t < Try.prog.types.size) (hE : Ext W W') : s.post enc Try.prog fn false true false false W args (.bool true) W' := by
  have hold : ∀ p ∈ before, (fun b => decide (b < W.heap.size)) p.block = true := fun p hp => by simpa using hW.lt p hp
  have hlt := hW.lt
  have hW' := hW
  obtain ⟨pa, pv, hA, hV, rfl, hz, hn⟩ := hW
  rw [hv] at hV
  obtain ⟨rfl, rfl⟩ := trodVars_none hV
  have hA' : DataW.TrodAll enc Try.prog W' 0 (fun _ => true) true fn.params.toList args.toList ds pa := trodAll_carry hA fun p hp => sameAt_ext hE p (hlt p (List.mem_append_left _ hp))
  have hargs : ∀ sp : Nat → Bool, (∀ p ∈ pa ++ [], sp p.block = true) → DataW.TrodAll enc Try.prog W' 0 sp true fn.params.toList args.toList ds pa := fun sp hsp =>
    DataW.TrodAll.respare kids full hpar hA' fun p hp => hsp p (by simpa using hp)
  have hres' : ∀ (b : Nat) (sp : Nat → Bool) (hd : Bool), DataW.TrodAll enc Try.prog W' b sp hd fn.resultTypes.toList ((Value.bool true).resultList fn.resultTypes.size) [.lit (.bool true)] [] := fun b sp hd => by
    rw [hres]; exact trodAll_cons_mk (shut_bool hbt true) trodAll_mk0
  refine ⟨ds, [], pa ++ [], [], pa, [], hW', by rw [hfn]; exact hres' _ _ _, by rw [hfn]; exact hargs _ hold, by rw [hfn, hv]; rfl, World.keptBut_mono (fun p hp => ⟨hp, ?_⟩) ((hE.toBelow).frame (· ∈ pa ++ [])), fun h => by cases h⟩
  exact Or.inr (by simpa using hp)

/-! ### How arguments read -/

def Old (W : World) : Nat → Prop := fun b => b < W.heap.size

variable {P : Program} {W : World}
/-- A reading of cells of a type as these. -/
theorem rd_int {base : Nat} {spare : Nat → Bool} {held : Bool} {t : TypeId} {k : IntKind} (ht : P.underlying t = some (.int k)) {n : Nat} {cs : List Value} {x : DataW H × List MemPlace} (h : DataW.trod enc P W base spare held n t cs = some x) :
    ∃ z : Int, (Lit.int k z).wf = true ∧ RelL (Old W) W [.val (.int k z)] cs := by
  cases n with
  | zero => simp [DataW.trod] at h
  | succ n =>
    obtain ⟨z, rfl, _, hw⟩ := DataW.trod_int ht h
    exact ⟨z, hw, RelL.cons (.val _) RelL.nil⟩

theorem rd_slice {α : Type} {enc' : α → List AV} {good : α → Prop} {base : Nat} {spare : Nat → Bool} {held : Bool} {t e : TypeId} (ht : P.underlying t = some (.slice e)) (hsz : ∀ a, (enc' a).length = P.cellsOf e) (hpos : 0 < P.cellsOf e)
    (he : ∀ (n : Nat) (cs : List Value) (x : DataW H × List MemPlace), cs.length = P.cellsOf e → DataW.trod enc P W base spare held n e cs = some x → ∃ a, good a ∧ RelL (Old W) W (enc' a) cs)
    {n : Nat} {cs : List Value} {x : DataW H × List MemPlace} (h : DataW.trod enc P W base spare held n t cs = some x) :
    ∃ l : List α, (∀ a ∈ l, good a) ∧ l.length ≤ maxLen ∧ RelL (Old W) W [.ro false l.length (l.flatMap enc')] cs := by
  rcases open_slice ht h with ⟨rfl, -⟩ | ⟨ad, len, cap, m, n', D, Pl, rfl, hb, hl, hm, hmm, hx, hi⟩
  · exact ⟨[], fun _ h => (by cases h), Nat.zero_le _, RelL.cons (.emp _ _ _ (fun h => by cases h) (Nat.zero_le _)) RelL.nil⟩
  · have hlm : len ≤ m := by rw [hmm]; split <;> omega
    have hex : ∀ i : Nat, ∃ a : Option α, i < len → ∃ a', a = some a' ∧ good a' ∧ ∃ cs', W.cells? base (ad.add (i * P.cellsOf e)) (P.cellsOf e) = some cs' ∧ RelL (Old W) W (enc' a') cs' := fun i => by
      by_cases hil : i < len
      · obtain ⟨cs', hc, htr⟩ := hi i (by omega)
        obtain ⟨_, hcl, _⟩ := World.cells?_some hc
        obtain ⟨a, hg, hr⟩ := he _ _ _ hcl htr
        exact ⟨some a, fun _ => ⟨a, rfl, hg, cs', hc, hr⟩⟩
      · exact ⟨none, fun h => absurd h hil⟩
    obtain ⟨f, hf⟩ := Classical.axiomOfChoice hex
    by_cases hlen0 : len = 0
    · subst hlen0
      exact ⟨[], fun _ h => (by cases h), Nat.zero_le _, RelL.cons (.emp _ _ _ (fun h => by cases h) hm) RelL.nil⟩
    · obtain ⟨a0, _, _⟩ := hf 0 (by omega)
      let g : Nat → α := fun i => (f i).getD a0
      have hg : ∀ i, i < len → good (g i) ∧ ∃ cs', W.cells? base (ad.add (i * P.cellsOf e)) (P.cellsOf e) = some cs' ∧ RelL (Old W) W (enc' (g i)) cs' := fun i hi' => by
        obtain ⟨a', ha', h1, h2⟩ := hf i hi'
        have : g i = a' := by simp [g, ha']
        rw [this]; exact ⟨h1, h2⟩
      have hflat : ∀ (len : Nat), (((List.range len).map g).flatMap enc').length = len * P.cellsOf e := by
        intro len
        induction len with
        | zero => simp
        | succ k ih => rw [List.range_succ, List.map_append, List.flatMap_append, List.length_append, ih]; simp [hsz, Nat.add_mul]
      have hflatget : ∀ (len i j : Nat), i < len → j < P.cellsOf e → (((List.range len).map g).flatMap enc')[i * P.cellsOf e + j]? = (enc' (g i))[j]? := by
        intro len
        induction len with
        | zero => intro i j h; omega
        | succ k ih =>
          intro i j h hj
          rw [List.range_succ, List.map_append, List.flatMap_append, List.getElem?_append]
          by_cases hik : i < k
          · have h1 : (i + 1) * P.cellsOf e ≤ k * P.cellsOf e := Nat.mul_le_mul_right _ (by omega)
            rw [Nat.add_mul] at h1
            rw [if_pos (by rw [hflat]; omega)]
            exact ih i j hik hj
          · have : i = k := by omega
            subst this
            rw [if_neg (by rw [hflat]; omega), hflat]
            simp
      have hblk : ad.spot = none ∧ ad.block < W.heap.size := by
        obtain ⟨_, cs', hc, _⟩ := hg 0 (by omega)
        obtain ⟨_, hcl, hat⟩ := World.cells?_some hc
        have h0 := hat 0 hpos
        simp only [Nat.zero_mul] at h0
        have h1 : W.cell? ad ≠ none := by
          intro hn
          rw [show (ad.add 0).add 0 = ad by simp [Addr.add]] at h0
          rw [hn] at h0
          have := (List.getElem?_eq_none_iff.1 h0.symm)
          omega
        refine ⟨?_, ?_⟩
        · cases hsp : ad.spot with
          | none => rfl
          | some _ => exfalso; apply h1; unfold World.cell?; split <;> simp [hsp]
        · cases hc : W.cell? ad with
          | none => exact absurd hc h1
          | some u => exact World.block_lt_of_cell? W ad hc
      obtain ⟨b, off, sp⟩ := ad
      obtain ⟨rfl, hblt⟩ := hblk
      have hcell : ∀ i j, i < len → j < P.cellsOf e → ∃ u, W.cell? ⟨b, off + (i * P.cellsOf e + j), none⟩ = some u ∧ ∃ x, (enc' (g i))[j]? = some x ∧ RelV (Old W) W x u := fun i j hi' hj => by
        obtain ⟨_, cs', hc, hr⟩ := hg i hi'
        obtain ⟨_, hcl, hat⟩ := World.cells?_some hc
        have h0 := hat j hj
        rw [addr_add, addr_add] at h0
        have hjl : j < cs'.length := by omega
        have hjx : j < (enc' (g i)).length := by rw [hsz]; exact hj
        refine ⟨cs'[j], by rw [← Nat.add_assoc, h0]; simp [hjl], (enc' (g i))[j], by simp [hjx], ?_⟩
        have := hr.2 j hjx
        simpa [hjl] using this
      refine ⟨(List.range len).map g, fun a ha => ?_, by simp; omega, RelL.cons ?_ RelL.nil⟩
      · obtain ⟨i, hi', rfl⟩ := List.mem_map.1 ha
        exact (hg i (List.mem_range.1 hi')).1
      · rw [List.length_map, List.length_range]
        have hq : ∀ j, j < (((List.range len).map g).flatMap enc').length → ∃ u, W.cell? ⟨b, off + j, none⟩ = some u ∧ ∃ x, (((List.range len).map g).flatMap enc')[j]? = some x ∧ RelV (Old W) W x u := fun j hj => by
          rw [hflat] at hj
          have h1 : j / P.cellsOf e < len := (Nat.div_lt_iff_lt_mul hpos).2 hj
          have h2 := Nat.mod_lt j hpos
          have h3 : j / P.cellsOf e * P.cellsOf e + j % P.cellsOf e = j := by rw [Nat.mul_comm]; exact Nat.div_add_mod j _
          obtain ⟨u, hu, x, hx', hr⟩ := hcell (j / P.cellsOf e) (j % P.cellsOf e) h1 h2
          rw [h3] at hu
          refine ⟨u, hu, x, ?_, hr⟩
          have := hflatget len _ _ h1 h2
          rw [h3] at this
          rw [this, hx']
        refine .ro false len _ b off cap (fun j => (W.cell? ⟨b, off + j, none⟩).getD undef) hblt (fun j hj => ?_) (fun j hj => ?_) hl hm (fun h => by cases h)
        · obtain ⟨u, hu, _⟩ := hq j hj
          rw [hu]; rfl
        · obtain ⟨u, hu, x, hx', hr⟩ := hq j hj
          rw [hu]
          simp only [Option.getD_some]
          have : x = (((List.range len).map g).flatMap enc')[j] := by
            rw [List.getElem?_eq_getElem hj] at hx'; exact (Option.some.inj hx').symm
          rw [← this]; exact hr

theorem flatMap_one {α : Type} (f : α → AV) (l : List α) : l.flatMap (fun a => [f a]) = l.map f := by
  induction l with
  | nil => rfl
  | cons a l ih => simp [List.flatMap_cons, ih]

theorem rd_ints {base : Nat} {spare : Nat → Bool} {held : Bool} {t e : TypeId} {k : IntKind} (ht : P.underlying t = some (.slice e)) (he : P.underlying e = some (.int k)) (h1 : P.cellsOf e = 1) {n : Nat} {cs : List Value} {x : DataW H × List MemPlace} (h : DataW.trod enc P W base spare held n t cs = some x) :
    ∃ l : List Int, (∀ z ∈ l, (Lit.int k z).wf = true) ∧ l.length ≤ maxLen ∧ RelL (Old W) W [.ro false l.length (intsA k l)] cs := by
  obtain ⟨l, h2, h3, h4⟩ := rd_slice (enc' := fun z : Int => [.val (.int k z)]) (good := fun z => (Lit.int k z).wf = true) ht (fun _ => h1.symm) (by omega) (fun n cs x _ h => rd_int he h) h
  rw [flatMap_one] at h4
  exact ⟨l, h2, h3, h4⟩
theorem rd_bytes {base : Nat} {spare : Nat → Bool} {held : Bool} {t e : TypeId} (ht : P.underlying t = some (.slice e)) (he : P.underlying e = some (.int .u8)) (h1 : P.cellsOf e = 1) {n : Nat} {cs : List Value} {x : DataW H × List MemPlace} (h : DataW.trod enc P W base spare held n t cs = some x) :
    ∃ l : List UInt8, l.length ≤ maxLen ∧ RelL (Old W) W [roB l] cs := by
  obtain ⟨l, h2, h3, h4⟩ := rd_ints ht he h1 h
  have hb : ∃ m : List UInt8, l = m.map fun b => ((b.toNat : Nat) : Int) := by
    clear h h3 h4
    induction l with
    | nil => exact ⟨[], rfl⟩
    | cons z l ih =>
      obtain ⟨m, rfl⟩ := ih fun z hz => h2 z (List.mem_cons_of_mem _ hz)
      have hz := h2 z (List.mem_cons_self ..)
      have hz' : 0 ≤ z ∧ z ≤ 255 := by simpa [Lit.wf, IntKind.min, IntKind.max, IntKind.signed, IntKind.bits] using hz
      refine ⟨UInt8.ofNat z.toNat :: m, ?_⟩
      simp only [List.map_cons, List.cons.injEq, and_true]
      rw [UInt8.toNat_ofNat_of_lt' (by simp [UInt8.size]; omega)]
      omega
  obtain ⟨m, rfl⟩ := hb
  refine ⟨m, by simpa using h3, ?_⟩
  simpa [roB, bytesA, intsA, Function.comp_def] using h4

theorem relV_of_one {R : Nat → Prop} {a : AV} {v : Value} (hc : v.cells.toList = [v]) (h : RelL R W [a] v.cells.toList) : RelV R W a v := by
  rw [hc] at h
  obtain ⟨u, r, he, h1, _⟩ := h.uncons
  cases he
  exact h1
theorem relV_of_agg {R : Nat → Prop} {xs : List AV} {cs : Array Value} (h : RelL R W xs (Value.agg cs).cells.toList) : RelV R W (.agg xs) (.agg cs) := by
  have := h.toAgg
  simpa [Value.cells] using this
end
end Go.Proofs.Ytjgmedmakbjkdaa.A

namespace Go.Proofs.Ytjgmedmakbjkdaa.A
open Go.ChangeShapes Go.WideShapes Go.ChangeAt Go.RowKit L
set_option linter.unusedVariables false
set_option linter.unusedSimpArgs false
section
variable {P : Program}

/-- Arguments of this type read as one of these. -/
def Reads (P : Program) (t : TypeId) (φ : AV → Prop) : Prop :=
  ∀ (H : Type) (enc : TypeId × Value → H) (W : World) (base b0 : Nat) (spare : Nat → Bool) (held : Bool) (v : Value) (d : DataW H) (p : List MemPlace),
    Value.okWide P W .any b0 t v → DataW.Trod enc P W base spare held t v d p → ∃ x, φ x ∧ RelV (Old W) W x v
/-- Cells of this type read as one of these. -/
structure RdC (P : Program) (t : TypeId) {α : Type} (f : α → List AV) (good : α → Prop) : Prop where
  len : ∀ a, (f a).length = P.cellsOf t
  rd : ∀ (H : Type) (enc : TypeId × Value → H) (W : World) (base : Nat) (spare : Nat → Bool) (held : Bool) (n : Nat) (cs : List Value) (x : DataW H × List MemPlace),
    DataW.trod enc P W base spare held n t cs = some x → ∃ a, good a ∧ RelL (Old W) W (f a) cs

theorem okw_int {W : World} {r : Reach} {b : Nat} {t : TypeId} {k : IntKind} (ht : P.underlying t = some (.int k)) {v : Value} (h : Value.okWide P W r b t v) : v.cells.toList = [v] := by
  cases v <;> simp [Value.okWide, ht, Cell.okWide, Cell.ok] at h <;> rfl
theorem okw_slice {W : World} {r : Reach} {b : Nat} {t e : TypeId} (ht : P.underlying t = some (.slice e)) {v : Value} (h : Value.okWide P W r b t v) : v.cells.toList = [v] := by
  cases v <;> simp [Value.okWide, ht, Cell.okWide, Cell.ok] at h <;> rfl
theorem okw_bool {W : World} {r : Reach} {b : Nat} {t : TypeId} (ht : P.underlying t = some .bool) {v : Value} (h : Value.okWide P W r b t v) : v.cells.toList = [v] := by
  cases v <;> simp [Value.okWide, ht, Cell.okWide, Cell.ok] at h <;> rfl
theorem okw_string {W : World} {r : Reach} {b : Nat} {t : TypeId} (ht : P.underlying t = some .string) {v : Value} (h : Value.okWide P W r b t v) : v.cells.toList = [v] := by
  cases v <;> simp [Value.okWide, ht, Cell.okWide, Cell.ok] at h <;> rfl

theorem RelL.glue {R : Nat → Prop} {W : World} {xs ys : List AV} {cs : List Value} {o k : Nat} (h1 : RelL R W xs ((cs.drop o).take k)) (h2 : RelL R W ys (cs.drop (o + k))) : RelL R W (xs ++ ys) (cs.drop o) := by
  have := h1.app h2
  rwa [show (cs.drop o).take k ++ cs.drop (o + k) = cs.drop o by rw [← List.drop_drop, List.take_append_drop]] at this
theorem RdC.int {t : TypeId} {k : IntKind} (ht : P.underlying t = some (.int k)) (h1 : P.cellsOf t = 1) : RdC P t (fun z : Int => [.val (.int k z)]) (fun z => (Lit.int k z).wf = true) :=
  ⟨fun _ => h1.symm, fun H enc W base spare held n cs x h => rd_int ht h⟩
theorem RdC.bool {t : TypeId} (ht : P.underlying t = some .bool) (h1 : P.cellsOf t = 1) : RdC P t (fun z : Bool => [.val (.bool z)]) (fun _ => True) :=
  ⟨fun _ => h1.symm, fun H enc W base spare held n cs x h => by
    obtain ⟨b, rfl, _⟩ := DataW.trod_bool ht h
    exact ⟨b, trivial, RelL.cons (.val _) RelL.nil⟩⟩
theorem RdC.string {t : TypeId} (ht : P.underlying t = some .string) (h1 : P.cellsOf t = 1) : RdC P t (fun s : ByteArray => [.val (.string s)]) (fun s => s.size ≤ maxLen) :=
  ⟨fun _ => h1.symm, fun H enc W base spare held n cs x h => by
    obtain ⟨b, rfl, _, hs⟩ := DataW.trod_string ht h
    exact ⟨b, hs, RelL.cons (.val _) RelL.nil⟩⟩
theorem RdC.slice {t e : TypeId} {α : Type} {f : α → List AV} {good : α → Prop} (ht : P.underlying t = some (.slice e)) (h1 : P.cellsOf t = 1) (hpos : 0 < P.cellsOf e) (h : RdC P e f good) :
    RdC P t (fun l : List α => [.ro false l.length (l.flatMap f)]) (fun l => (∀ a ∈ l, good a) ∧ l.length ≤ maxLen) :=
  ⟨fun _ => h1.symm, fun H enc W base spare held n cs x hx => by
    obtain ⟨l, h2, h3, h4⟩ := rd_slice ht h.len hpos (fun n cs x _ hx => h.rd H enc W base spare held n cs x hx) hx
    exact ⟨l, ⟨h2, h3⟩, h4⟩⟩
theorem RdC.bytes {t e : TypeId} (ht : P.underlying t = some (.slice e)) (he : P.underlying e = some (.int .u8)) (h1 : P.cellsOf t = 1) (h2 : P.cellsOf e = 1) : RdC P t (fun l : List UInt8 => [roB l]) (fun l => l.length ≤ maxLen) :=
  ⟨fun _ => h1.symm, fun H enc W base spare held n cs x hx => rd_bytes ht he h2 hx⟩
theorem RdC.ints {t e : TypeId} {k : IntKind} (ht : P.underlying t = some (.slice e)) (he : P.underlying e = some (.int k)) (h1 : P.cellsOf t = 1) (h2 : P.cellsOf e = 1) :
    RdC P t (fun l : List Int => [.ro false l.length (intsA k l)]) (fun l => (∀ z ∈ l, (Lit.int k z).wf = true) ∧ l.length ≤ maxLen) :=
  ⟨fun _ => h1.symm, fun H enc W base spare held n cs x hx => by
    obtain ⟨l, h3, h4, h5⟩ := rd_ints ht he h2 hx
    exact ⟨l, ⟨h3, h4⟩, h5⟩⟩
/-- Fields, one after the other, from cell o on. -/
structure FR (P : Program) (fs : List Field) (o m : Nat) {α : Type} (f : α → List AV) (good : α → Prop) : Prop where
  len : ∀ a, (f a).length = m
  rd : ∀ (H : Type) (enc : TypeId × Value → H) (W : World) (base : Nat) (spare : Nat → Bool) (held : Bool) (cs : List Value), cs.length = o + m →
    (∀ fd ∈ fs, ∃ (n : Nat) (y : DataW H × List MemPlace), DataW.trod enc P W base spare held n fd.type ((cs.drop fd.offset).take (P.cellsOf fd.type)) = some y) → ∃ a, good a ∧ RelL (Old W) W (f a) (cs.drop o)
theorem FR.nil {o : Nat} : FR P [] o 0 (fun _ : Unit => []) (fun _ => True) :=
  ⟨fun _ => rfl, fun H enc W base spare held cs hl _ => ⟨(), trivial, by rw [List.drop_of_length_le (by omega)]; exact RelL.nil⟩⟩
theorem FR.cons {fd : Field} {fs : List Field} {o k m : Nat} {α β : Type} {f : α → List AV} {good : α → Prop} {g : β → List AV} {good' : β → Prop} (h : RdC P fd.type f good) (ho : fd.offset = o) (hk : P.cellsOf fd.type = k) (hs : FR P fs (o + k) m g good') :
    FR P (fd :: fs) o (k + m) (fun p : α × β => f p.1 ++ g p.2) (fun p => good p.1 ∧ good' p.2) :=
  ⟨fun p => by rw [List.length_append, h.len, hs.len, hk], fun H enc W base spare held cs hl hall => by
    obtain ⟨n, y, h1⟩ := hall fd (List.mem_cons_self ..)
    rw [ho, hk] at h1
    obtain ⟨a, h2, h3⟩ := h.rd H enc W base spare held _ _ _ h1
    obtain ⟨b, h4, h5⟩ := hs.rd H enc W base spare held cs (by omega) (fun fd hfd => hall fd (List.mem_cons_of_mem _ hfd))
    exact ⟨(a, b), ⟨h2, h4⟩, RelL.glue h3 h5⟩⟩
theorem RdC.struct {t : TypeId} {fs : List Field} {m : Nat} {α : Type} {f : α → List AV} {good : α → Prop} (ht : P.underlying t = some (.struct fs.toArray)) (hm : P.cellsOf t = m) (h : FR P fs 0 m f good) : RdC P t f good :=
  ⟨fun a => by rw [h.len, hm], fun H enc W base spare held n cs x hx => by
    obtain ⟨xs, n', _, _, hl, hlen, hf⟩ := DataW.trod_struct ht hx
    obtain ⟨a, h1, h2⟩ := h.rd H enc W base spare held cs (by omega) (fun fd hfd => by
      obtain ⟨i, hi, rfl⟩ := List.getElem_of_mem hfd
      have h0 := hf i fs[i] (by simp [hi])
      have hxi : i < xs.length := by rw [hlen]; simpa using hi
      rw [List.getElem?_eq_getElem hxi] at h0
      exact ⟨n', _, h0⟩)
    exact ⟨a, h1, by simpa using h2⟩⟩
theorem RdC.map {t : TypeId} {α β : Type} {f : α → List AV} {good : α → Prop} {g : β → List AV} {good' : β → Prop} (h : RdC P t f good) (φ : α → β) (hφ : ∀ a, good a → good' (φ a) ∧ f a = g (φ a)) (hl : ∀ b, (g b).length = P.cellsOf t) : RdC P t g good' :=
  ⟨hl, fun H enc W base spare held n cs x hx => by
    obtain ⟨a, h1, h2⟩ := h.rd H enc W base spare held n cs x hx
    exact ⟨φ a, (hφ a h1).1, (hφ a h1).2 ▸ h2⟩⟩
theorem RdC.reads {t : TypeId} {α : Type} {f : α → List AV} {good : α → Prop} (h : RdC P t f good) (g : α → AV) (hg : ∀ a, f a = [g a]) (hw : ∀ (W : World) (b : Nat) (v : Value), Value.okWide P W .any b t v → v.cells.toList = [v]) : Reads P t (fun x => ∃ a, good a ∧ x = g a) :=
  fun H enc W base b0 spare held v d p hv ⟨n, hx⟩ => by
    obtain ⟨a, h1, h2⟩ := h.rd H enc W base spare held n _ _ hx
    rw [hg] at h2
    exact ⟨g a, ⟨a, h1, rfl⟩, relV_of_one (hw _ _ _ hv) h2⟩
theorem RdC.readsAgg {t : TypeId} {α : Type} {f : α → List AV} {good : α → Prop} (h : RdC P t f good) (hw : ∀ (W : World) (b : Nat) (v : Value), Value.okWide P W .any b t v → ∃ cs, v = .agg cs) : Reads P t (fun x => ∃ a, good a ∧ x = .agg (f a)) :=
  fun H enc W base b0 spare held v d p hv ⟨n, hx⟩ => by
    obtain ⟨cs, rfl⟩ := hw _ _ _ hv
    obtain ⟨a, h1, h2⟩ := h.rd H enc W base spare held n _ _ hx
    exact ⟨.agg (f a), ⟨a, h1, rfl⟩, relV_of_agg h2⟩
theorem Reads.int {t : TypeId} {k : IntKind} (ht : P.underlying t = some (.int k)) (h1 : P.cellsOf t = 1) : Reads P t (fun x => ∃ z : Int, (Lit.int k z).wf = true ∧ x = .val (.int k z)) := (RdC.int ht h1).reads (fun z => .val (.int k z)) (fun _ => rfl) (fun _ _ _ h => okw_int ht h)
theorem Reads.bool {t : TypeId} (ht : P.underlying t = some .bool) (h1 : P.cellsOf t = 1) : Reads P t (fun x => ∃ z : Bool, True ∧ x = .val (.bool z)) := (RdC.bool ht h1).reads (fun z => .val (.bool z)) (fun _ => rfl) (fun _ _ _ h => okw_bool ht h)
theorem Reads.bytes {t e : TypeId} (ht : P.underlying t = some (.slice e)) (he : P.underlying e = some (.int .u8)) (h1 : P.cellsOf t = 1) (h2 : P.cellsOf e = 1) : Reads P t (fun x => ∃ l : List UInt8, l.length ≤ maxLen ∧ x = roB l) := (RdC.bytes ht he h1 h2).reads roB (fun _ => rfl) (fun _ _ _ h => okw_slice ht h)
theorem Reads.ints {t e : TypeId} {k : IntKind} (ht : P.underlying t = some (.slice e)) (he : P.underlying e = some (.int k)) (h1 : P.cellsOf t = 1) (h2 : P.cellsOf e = 1) :
    Reads P t (fun x => ∃ l : List Int, ((∀ z ∈ l, (Lit.int k z).wf = true) ∧ l.length ≤ maxLen) ∧ x = .ro false l.length (intsA k l)) := (RdC.ints ht he h1 h2).reads (fun l => .ro false l.length (intsA k l)) (fun _ => rfl) (fun _ _ _ h => okw_slice ht h)
theorem Reads.slice {t e : TypeId} {α : Type} {f : α → List AV} {good : α → Prop} (ht : P.underlying t = some (.slice e)) (h1 : P.cellsOf t = 1) (hpos : 0 < P.cellsOf e) (h : RdC P e f good) :
    Reads P t (fun x => ∃ l : List α, ((∀ a ∈ l, good a) ∧ l.length ≤ maxLen) ∧ x = .ro false l.length (l.flatMap f)) := (RdC.slice ht h1 hpos h).reads (fun l => .ro false l.length (l.flatMap f)) (fun _ => rfl) (fun _ _ _ h => okw_slice ht h)

/-- All arguments. -/
def ReadsL (P : Program) : List TypeId → List (AV → Prop) → Prop
  | [], [] => True
  | t :: ts, φ :: φs => Reads P t φ ∧ ReadsL P ts φs
  | _, _ => False
theorem ReadsL.nil : ReadsL P [] [] := trivial
theorem ReadsL.cons {t : TypeId} {ts : List TypeId} {φ : AV → Prop} {φs : List (AV → Prop)} (h : Reads P t φ) (hs : ReadsL P ts φs) : ReadsL P (t :: ts) (φ :: φs) := ⟨h, hs⟩
def AllOf : List (AV → Prop) → (List AV → Prop) → Prop
  | [], K => K []
  | φ :: φs, K => ∀ x, φ x → AllOf φs (fun xs => K (x :: xs))

theorem readAll {H : Type} {enc : TypeId × Value → H} {W : World} {base b0 : Nat} {spare : Nat → Bool} {held : Bool} : ∀ {ts : List TypeId} {φs : List (AV → Prop)} {K : List AV → Prop} {vs : List Value} {ds : List (DataW H)} {ps : List MemPlace},
    ReadsL P ts φs → AllOf φs K → (∀ (j : Nat) t v, ts[j]? = some t → vs[j]? = some v → Value.okWide P W .any b0 t v) → DataW.TrodAll enc P W base spare held ts vs ds ps → ∃ xs, K xs ∧ RelL (Old W) W xs vs
  | [], [], K, vs, ds, ps, _, hK, _, hT => by
    obtain ⟨rfl, _, _⟩ := trodAll_nil hT
    exact ⟨[], hK, RelL.nil⟩
  | [], _ :: _, _, _, _, _, h, _, _, _ => h.elim
  | _ :: _, [], _, _, _, _, h, _, _, _ => h.elim
  | t :: ts, φ :: φs, K, vs, ds, ps, h, hK, hv, hT => by
    obtain ⟨v0, vs0, d0, ds0, p0, q0, rfl, rfl, rfl, h0, r0⟩ := trodAll_cons hT
    obtain ⟨x, h1, h2⟩ := h.1 H enc W base b0 spare held v0 d0 p0 (hv 0 t v0 rfl rfl) h0
    obtain ⟨xs, h3, h4⟩ := readAll h.2 (hK x h1) (fun j t v a b => hv (j + 1) t v a b) r0
    exact ⟨x :: xs, h3, RelL.cons h2 h4⟩
end

theorem law_contract {f : FuncId} {fn : Func} {s : ChangeSpec} {H : Type} (enc : TypeId × Value → H) {ts : List TypeId} {φs : List (AV → Prop)} (hp : fn.params.toList = ts) (hr : ReadsL Try.prog ts φs)
    (h : AllOf φs fun xs => Sp Try.prog f xs [] (Is (.val (.bool true)))) {W : World} {base : Nat} {args : Array Value} {ds gs : List (DataW H)} {before : List MemPlace}
    (hval : ∀ (j : Nat) t v, fn.params[j]? = some t → args[j]? = some v → Value.okWide Try.prog W .any base t v)
    (hW : DataW.Whole enc Try.prog fn.params.toList s.vars false W args.toList ds gs before)
    (post : ∀ W', Ext W W' → s.post enc Try.prog fn false true false false W args (.bool true) W') :
    Calls Try.prog f args W fun e W' => ∃ v, e = .returned v ∧ s.post enc Try.prog fn false true false false W args v W' := by
  obtain ⟨p, q, hA, hV, rfl, hfz, hnd⟩ := hW
  rw [hp] at hA
  obtain ⟨xs, hS, hR⟩ := readAll (b0 := base) hr h (fun j t v h1 h2 => hval j t v (by rw [← Array.getElem?_toList, hp]; exact h1) (by rw [← Array.getElem?_toList]; exact h2)) hA
  have hc := hS W (Old W) args.toList (fun b hb => hb) (fun e he => by cases he) .nil hR
  rw [Array.toArray_toList] at hc
  refine hc.mono ?_
  rintro e W' ⟨u, r, H', R', rfl, ⟨rfl, rfl⟩, hs, hv⟩
  obtain rfl := hv.val_inv
  exact ⟨_, rfl, post W' (hs.mods.mono fun b _ ⟨e, he, _⟩ => by cases he)⟩
end Go.Proofs.Ytjgmedmakbjkdaa.A

namespace Go.Proofs.Ytjgmedmakbjkdaa.By
open Go.RowKit L A
set_option linter.unusedVariables false
theorem rdObs : RdC Try.prog 28 cellsOb (fun _ => True) :=
  (RdC.struct Try.underlying28 (by kernel_rfl)
    (.cons (k := 1) (RdC.int Try.underlying3 (by kernel_rfl)) rfl (by kernel_rfl)
    (.cons (k := 1) (RdC.bytes Try.underlying24 Try.underlying5 (by kernel_rfl) (by kernel_rfl)) rfl (by kernel_rfl)
    (.cons (k := 3) (RdC.struct Try.underlying26 (by kernel_rfl)
      (.cons (k := 1) (RdC.bytes Try.underlying24 Try.underlying5 (by kernel_rfl) (by kernel_rfl)) rfl (by kernel_rfl)
      (.cons (k := 1) (RdC.bytes Try.underlying24 Try.underlying5 (by kernel_rfl) (by kernel_rfl)) rfl (by kernel_rfl)
      (.cons (k := 1) (RdC.int Try.underlying3 (by kernel_rfl)) rfl (by kernel_rfl) .nil)))) rfl (by kernel_rfl)
    (.cons (k := 1) (RdC.string Try.underlying9 (by kernel_rfl)) rfl (by kernel_rfl) .nil))))).map
    (fun p => ⟨p.1, p.2.1, p.2.2.1.1, p.2.2.1.2.1, p.2.2.1.2.2.1, p.2.2.2.1⟩) (fun p h => ⟨trivial, rfl⟩) (fun _ => by show 6 = _; kernel_rfl)
end Go.Proofs.Ytjgmedmakbjkdaa.By

namespace Go.Proofs.Ytjgmedmakbjkdaa.LwN
open Go.ChangeShapes Go.WideShapes Go.ChangeAt Go.RowKit L A By
set_option linter.unusedVariables false

theorem contract (H : Type) (enc : TypeId × Value → H) (W : World) (base : Nat) (args : Array Value) (ds gs : List (DataW H)) (before : List MemPlace)
    (hval : ∀ (j : Nat) t v, Try.f3.params[j]? = some t → args[j]? = some v → Value.okWide Try.prog W .any base t v)
    (hW : DataW.Whole enc Try.prog Try.f3.params.toList Rows.notifyListsSpec.vars false W args.toList ds gs before) :
    Calls Try.prog 3 args W fun e W' => ∃ v, e = .returned v ∧ Rows.notifyListsSpec.post enc Try.prog Try.f3 false true false false W args v W' := by
  have hW' := hW
  obtain ⟨p, q, hA0, hV, rfl, hfz, hnd⟩ := hW
  have hA : DataW.TrodAll enc Try.prog W 0 (fun _ => true) true Try.f3.params.toList args.toList ds p := hA0
  rw [Try.params3] at hA
  obtain ⟨v0, vs0, d0, ds0, p0, q0, ha0, rfl, hp0, h0, r0⟩ := trodAll_cons hA
  obtain ⟨v1, vs1, d1, ds1, p1, q1, ha1, rfl, hp1, h1, r1⟩ := trodAll_cons r0
  obtain ⟨v2, vs2, d2, ds2, p2, q2, ha2, rfl, hp2, h2, r2⟩ := trodAll_cons r1
  obtain ⟨v3, vs3, d3, ds3, p3, q3, ha3, rfl, hp3, h3, r3⟩ := trodAll_cons r2
  obtain ⟨v4, vs4, d4, ds4, p4, q4, ha4, rfl, hp4, h4, r4⟩ := trodAll_cons r3
  obtain ⟨-, rfl, -⟩ := trodAll_nil r4
  obtain ⟨rfl, rfl⟩ := trodVars_none hV
  refine law_contract enc (ts := [22, 23, 28, 3, 9]) (by rw [Try.params3]) (ReadsL.cons (Reads.slice Try.underlying22 (by kernel_rfl) (of_decide_eq_true (by kernel_rfl)) (rdObs)) (ReadsL.cons (Reads.ints Try.underlying23 Try.underlying3 (by kernel_rfl) (by kernel_rfl)) (ReadsL.cons (RdC.readsAgg (rdObs) (fun W b v h => by unfold Value.okWide at h; rw [Try.underlying28] at h; obtain ⟨cs, h, _⟩ := h; exact ⟨cs, h⟩)) (ReadsL.cons (Reads.int Try.underlying3 (by kernel_rfl)) (ReadsL.cons ((RdC.string Try.underlying9 (by kernel_rfl)).reads (fun s => .val (.string s)) (fun _ => rfl) (fun _ _ _ h => okw_string Try.underlying9 h)) (ReadsL.nil)))))) (φs := [_, _, _, _, _]) ?_ hval hW' (fun W' hE => lawPost hW' rfl rfl rfl Try.underlying4 (by rw [Try.params3]; decide) hE)
  rintro _ ⟨x0, h0, rfl⟩ _ ⟨x1, h1, rfl⟩ _ ⟨x2, h2, rfl⟩ _ ⟨x3, h3, rfl⟩ _ ⟨x4, h4, rfl⟩
  exact lawLists_fn x0 x1 x2 x3 x4 h1.2

set_option maxRecDepth 100000 in
theorem lifted (os : Os) (started : os.Started) (H : Type) (enc : TypeId × Value → H) :
    ReturnsInHanded {} Try.checked os 3 .any (Rows.notifyListsSpec.pre6 enc Try.prog Try.f3 Rows.notifyListsRow.domain false) (Rows.notifyListsSpec.post enc Try.prog Try.f3 false true false false) := by
  refine returnsInHanded_of_change (C := Try.checked) own started (by kernel_rfl) Try.func3
    (ChangeSpec.witness6 (enc := enc) (C := Try.checked) false ⟨#[], #[.slice none 0 0, .slice none 0 0, .agg #[.int .i64 0, .slice none 0 0, .slice none 0 0, .slice none 0 0, .int .i64 0, .string ⟨#[]⟩], .int .i64 0, .string ⟨#[]⟩], []⟩ 8 (by kernel_rfl) (by kernel_rfl) (by kernel_rfl) (by kernel_rfl)) ?_
  intro W base args ds gs before hval hW _ _
  exact contract H enc W base args ds gs before hval hW

theorem over : Rows.notifyListsRow.holds Try.pinned (OpenSpec.ofChange Rows.notifyListsSpec) :=
  OpenClaim.holds_of_wide 3 Try.f3 rfl rfl rfl rfl rfl rfl rfl ⟨rfl, rfl, rfl, rfl, rfl⟩ rfl rfl rfl rfl rfl (by kernel_rfl) Try.func3 (by kernel_rfl)
    (of_decide_eq_true (by kernel_rfl)) (by unfold Func.isWrapper; first | (rw [if_pos (by decide +kernel)]; kernel_rfl) | (rw [if_neg (by decide +kernel)]; exact ⟨rfl, rfl⟩))
    (fun os started H enc _ => lifted os started H enc)
theorem notifyLists : Rows.NotifyListsSaid := over
end Go.Proofs.Ytjgmedmakbjkdaa.LwN
