/-
  SplitBack, the statement: for every input the law returns true, and its arguments read as before. No condition.
-/
import Derived.ChangeSame
import Derived.JoinedOf
import Derived.JoinedAt
import Derived.RowKit3
import Derived.ReadAgain
import Derived.Deep.Slices
import Derived.ChangeSlices
import Derived.Test.YtbmndjjaaeambaaZ3
namespace Go.Proofs.Ytbmndjjaaeambaa.By
open Go.RowKit L A
set_option linter.unusedVariables false
set_option linter.unusedSimpArgs false
attribute [local irreducible] AW AQ AO

def cmpB : List UInt8 → List UInt8 → Int
  | x :: a, y :: b => if x = y then cmpB a b else if x.toNat < y.toNat then -1 else 1
  | [], [] => 0
  | [], _ => -1
  | _, [] => 1
theorem cmpB_zero : ∀ {a b : List UInt8}, cmpB a b = 0 ↔ a = b
  | [], [] => by simp [cmpB]
  | [], _ :: _ => by simp [cmpB]
  | _ :: _, [] => by simp [cmpB]
  | x :: a, y :: b => by
    unfold cmpB
    split
    · rename_i h
      rw [cmpB_zero, h]; simp
    · rename_i h
      simp only [List.cons.injEq, h, false_and, iff_false]
      split <;> omega
theorem cmpB_step {a b : List UInt8} {k : Nat} (h1 : k < a.length) (h2 : k < b.length) :
    cmpB (a.drop k) (b.drop k) = if bt a k = bt b k then cmpB (a.drop (k + 1)) (b.drop (k + 1)) else if (bt a k).toNat < (bt b k).toNat then -1 else 1 := by
  rw [drop_bt h1, drop_bt h2, cmpB]
theorem cmpB_end {a b : List UInt8} {k : Nat} (h1 : k ≤ a.length) (h2 : k ≤ b.length) (h : k < a.length → b.length ≤ k) : cmpB (a.drop k) (b.drop k) = if a.length < b.length then -1 else if b.length < a.length then 1 else 0 := by
  rcases Nat.lt_or_eq_of_le h1 with h3 | h3
  · have h4 : b.length = k := by have := h h3; omega
    have e : b.drop k = [] := List.drop_of_length_le (by omega)
    rw [drop_bt h3, e, if_neg (by omega), if_pos (by omega)]
    simp [cmpB]
  · have e : a.drop k = [] := List.drop_of_length_le (by omega)
    rw [e]
    rcases Nat.lt_or_eq_of_le h2 with h5 | h5
    · rw [drop_bt h5, if_pos (by omega)]; simp [cmpB]
    · have e : b.drop k = [] := List.drop_of_length_le (by omega)
      rw [e, if_neg (by omega), if_neg (by omega)]; simp [cmpB]

set_option maxHeartbeats 1000000 in
theorem compare_fn (a b : List UInt8) : Sp Try.prog 49 [roB a, roB b] [] (Is (.val (.int .i64 (cmpB a b)))) := by
  refine Sp.enter Try.func49 rfl _ Try.ntmps49 rfl (fun w0 R0 => ?_)
  refine AW.g ?_
  refine G.lenRo (t := 0) rfl (fun hm1 => ?_)
  refine AW.u ?_
  refine AW.g ?_
  refine G.lenRo (t := 1) rfl (fun hm2 => ?_)
  refine AW.u ?_
  unfold maxLen at hm1 hm2
  refine AW.seq ?_
  refine AW.region ?_
  refine AO.op (O.assign rfl rfl) rfl rfl rfl ?_
  refine AO.nil ?_
  refine AQ.thenN ?_
  refine AW.seq ?_
  refine AW.seq ?_
  refine AW.region ?_
  refine AO.op (O.assign rfl rfl) rfl rfl rfl ?_
  refine AO.nil ?_
  refine AQ.thenN ?_
  refine AW.block ?_
  refine AW.loopK [(0, _), (1, _)] (fun nn E H => ∃ (k : Nat), (k ≤ a.length) ∧ (k ≤ b.length) ∧ (cmpB a b = cmpB (a.drop k) (b.drop k)) ∧ nn = a.length - k ∧ E = [(5, .val (.int .i64 (k : Int)))] ∧ H = []) _ (⟨0, by omega, by omega, rfl, rfl, rfl, rfl⟩) (by repeat (first | exact envNil | refine envCons rfl ?_)) (by repeat (first | exact envNil | refine envCons rfl ?_)) (by repeat (exact subPnil)) ?_
  rintro nn E H ⟨k, h1, h2, hc, rfl, rfl, rfl⟩
  dsimp only [List.cons_append, List.nil_append]
  refine AW.seq ?_
  refine AW.seq ?_
  refine AW.region ?_
  refine AO.op (O.move rfl rfl) rfl rfl rfl ?_
  refine AO.op (O.move rfl rfl) rfl rfl rfl ?_
  refine AO.op (O.lenR rfl rfl) rfl rfl rfl ?_
  refine AO.op (O.lss rfl rfl rfl (by rfl)) rfl rfl rfl ?_
  refine AO.op (O.move rfl rfl) rfl rfl rfl ?_
  refine AO.opG rfl rfl rfl (fun hp => O.move rfl rfl) ?_
  refine AO.opG rfl rfl rfl (fun hp => O.move rfl rfl) ?_
  refine AO.opG rfl rfl rfl (fun hp => OpW.force 12 rfl (by exact hp) (O.lenR rfl rfl)) ?_
  refine AO.opG rfl rfl rfl (fun hp => OpW.force 11 rfl (by exact hp) (OpW.force 13 rfl (by exact hp) (O.lss rfl rfl rfl (by rfl)))) ?_
  refine AO.op (O.pickAnd rfl rfl rfl rfl (fun h => by exact h)) rfl rfl rfl ?_
  refine AO.nil ?_
  refine AQ.thenN ?_
  refine AW.split rfl (fun h => ?_) (fun h => ?_) <;> (try simp only [decide_eq_true_eq, decide_eq_false_iff_not, beq_iff_eq, beq_eq_false_iff_ne, bne_iff_ne, bne_eq_false_iff_eq, Bool.not_eq_true', Bool.not_eq_false', Bool.not_eq_true, Bool.not_eq_false, ne_eq, Int.not_lt, Int.not_le, Bool.and_eq_true, Bool.or_eq_true, Bool.or_eq_false_iff, Bool.and_eq_false_imp, strOf_toList, Decidable.not_not] at h)
  · skip
    have h3 : k < a.length := by omega
    have h4 : k < b.length := by omega
    rw [cmpB_step h3 h4] at hc
    refine AW.skip ?_
    refine AQ.thenN ?_
    refine AW.seq ?_
    refine AW.block ?_
    refine AW.seq ?_
    refine AW.regionD 9 (by kernel_rfl) (by kernel_rfl) ?_
    simp only [List.take_succ_cons, List.take_zero, List.drop_succ_cons, List.drop_zero]
    refine FA.op (O.move rfl rfl) rfl rfl rfl rfl ?_
    refine FA.op (O.move rfl rfl) rfl rfl rfl rfl ?_
    refine FA.op (O.idxR rfl rfl rfl ⟨(by omega), (by omega)⟩) rfl rfl rfl rfl ?_
    refine FA.op (O.loadR rfl rfl (by exact bt_at (by assumption) (by omega))) rfl rfl rfl rfl ?_
    refine FA.op (O.move rfl rfl) rfl rfl rfl rfl ?_
    refine FA.op (O.move rfl rfl) rfl rfl rfl rfl ?_
    refine FA.op (O.idxR rfl rfl rfl ⟨(by omega), (by omega)⟩) rfl rfl rfl rfl ?_
    refine FA.op (O.loadR rfl rfl (by exact bt_at (by assumption) (by omega))) rfl rfl rfl rfl ?_
    refine FA.op (O.neq rfl rfl rfl (by rfl)) rfl rfl rfl rfl ?_
    refine FA.nil ?_
    simp only [chosen, List.nil_append, List.cons_append, List.append_nil]
    refine AO.nil ?_
    refine AQ.thenN ?_
    refine AW.split rfl (fun h5 => ?_) (fun h5 => ?_) <;> (try simp only [decide_eq_true_eq, decide_eq_false_iff_not, beq_iff_eq, beq_eq_false_iff_ne, bne_iff_ne, bne_eq_false_iff_eq, Bool.not_eq_true', Bool.not_eq_false', Bool.not_eq_true, Bool.not_eq_false, ne_eq, Int.not_lt, Int.not_le, Bool.and_eq_true, Bool.or_eq_true, Bool.or_eq_false_iff, Bool.and_eq_false_imp, strOf_toList, Decidable.not_not] at h5)
    · skip
      rw [if_neg (fun e => h5 (by rw [e]))] at hc
      refine AW.seq ?_
      refine AW.seq ?_
      refine AW.regionD 9 (by kernel_rfl) (by kernel_rfl) ?_
      simp only [List.take_succ_cons, List.take_zero, List.drop_succ_cons, List.drop_zero]
      refine FA.op (O.move rfl rfl) rfl rfl rfl rfl ?_
      refine FA.op (O.move rfl rfl) rfl rfl rfl rfl ?_
      refine FA.op (O.idxR rfl rfl rfl ⟨(by omega), (by omega)⟩) rfl rfl rfl rfl ?_
      refine FA.op (O.loadR rfl rfl (by exact bt_at (by assumption) (by omega))) rfl rfl rfl rfl ?_
      refine FA.op (O.move rfl rfl) rfl rfl rfl rfl ?_
      refine FA.op (O.move rfl rfl) rfl rfl rfl rfl ?_
      refine FA.op (O.idxR rfl rfl rfl ⟨(by omega), (by omega)⟩) rfl rfl rfl rfl ?_
      refine FA.op (O.loadR rfl rfl (by exact bt_at (by assumption) (by omega))) rfl rfl rfl rfl ?_
      refine FA.op (O.lss rfl rfl rfl (by rfl)) rfl rfl rfl rfl ?_
      refine FA.nil ?_
      simp only [chosen, List.nil_append, List.cons_append, List.append_nil]
      refine AO.nil ?_
      refine AQ.thenN ?_
      refine AW.split rfl (fun h6 => ?_) (fun h6 => ?_) <;> (try simp only [decide_eq_true_eq, decide_eq_false_iff_not, beq_iff_eq, beq_eq_false_iff_ne, bne_iff_ne, bne_eq_false_iff_eq, Bool.not_eq_true', Bool.not_eq_false', Bool.not_eq_true, Bool.not_eq_false, ne_eq, Int.not_lt, Int.not_le, Bool.and_eq_true, Bool.or_eq_true, Bool.or_eq_false_iff, Bool.and_eq_false_imp, strOf_toList, Decidable.not_not] at h6)
      · skip
        rw [if_pos (by omega)] at hc
        refine AW.seq ?_
        refine AW.region ?_
        refine AO.op (O.assign rfl rfl) rfl rfl rfl ?_
        refine AO.nil ?_
        refine AQ.thenN ?_
        refine AW.ret ?_
        refine AQ.thenR ?_
        refine AQ.blockR ?_
        refine AQ.thenR ?_
        refine AQ.loopR ?_
        refine AQ.blockR ?_
        refine AQ.thenR ?_
        refine AQ.ret1 rfl rfl ⟨_, List.nil_sublist _, .nil⟩ (⟨congrArg (fun z => AV.val (.int .i64 z)) hc.symm, rfl⟩)
      · skip
        rw [if_neg (by omega)] at hc
        refine AW.skip ?_
        refine AQ.thenN ?_
        refine AW.seq ?_
        refine AW.region ?_
        refine AO.op (O.assign rfl rfl) rfl rfl rfl ?_
        refine AO.nil ?_
        refine AQ.thenN ?_
        refine AW.ret ?_
        refine AQ.blockR ?_
        refine AQ.thenR ?_
        refine AQ.loopR ?_
        refine AQ.blockR ?_
        refine AQ.thenR ?_
        refine AQ.ret1 rfl rfl ⟨_, List.nil_sublist _, .nil⟩ (⟨congrArg (fun z => AV.val (.int .i64 z)) hc.symm, rfl⟩)
    · skip
      rw [if_pos (u8_eq.1 h5)] at hc
      refine AW.skip ?_
      refine AQ.blockN ?_
      refine AQ.thenN ?_
      refine AW.region ?_
      refine AO.op (O.move rfl rfl) rfl rfl rfl ?_
      refine AO.op (O.add rfl rfl rfl (by exact wI64 (by omega))) rfl rfl rfl ?_
      refine AO.op (O.assign rfl rfl) rfl rfl rfl ?_
      refine AO.nil ?_
      refine AQ.loopKN _ _ _ (by omega) (⟨k + 1, by omega, by omega, hc, rfl, rfl, rfl⟩) (by repeat (first | exact envNil | refine envCons rfl ?_)) (by repeat (first | exact envNil | refine envCons rfl ?_)) (by repeat (exact subPnil))
  · skip
    rw [cmpB_end h1 h2 (fun _ => by omega)] at hc
    refine AW.exit ?_
    refine AQ.thenX ?_
    refine AQ.loopX ?_
    refine AQ.blockX rfl ?_
    refine AQ.thenN ?_
    refine AW.seq ?_
    refine AW.block ?_
    refine AW.seq ?_
    refine AW.region ?_
    refine AO.op (O.move rfl rfl) rfl rfl rfl ?_
    refine AO.op (O.lenR rfl rfl) rfl rfl rfl ?_
    refine AO.op (O.move rfl rfl) rfl rfl rfl ?_
    refine AO.op (O.lenR rfl rfl) rfl rfl rfl ?_
    refine AO.op (O.lss rfl rfl rfl (by rfl)) rfl rfl rfl ?_
    refine AO.op (O.assign rfl rfl) rfl rfl rfl ?_
    refine AO.nil ?_
    refine AQ.thenN ?_
    refine AW.split rfl (fun h5 => ?_) (fun h5 => ?_) <;> (try simp only [decide_eq_true_eq, decide_eq_false_iff_not, beq_iff_eq, beq_eq_false_iff_ne, bne_iff_ne, bne_eq_false_iff_eq, Bool.not_eq_true', Bool.not_eq_false', Bool.not_eq_true, Bool.not_eq_false, ne_eq, Int.not_lt, Int.not_le, Bool.and_eq_true, Bool.or_eq_true, Bool.or_eq_false_iff, Bool.and_eq_false_imp, strOf_toList, Decidable.not_not] at h5)
    · skip
      rw [if_pos (by omega)] at hc
      refine AW.seq ?_
      refine AW.region ?_
      refine AO.op (O.assign rfl rfl) rfl rfl rfl ?_
      refine AO.nil ?_
      refine AQ.thenN ?_
      refine AW.ret ?_
      refine AQ.blockR ?_
      refine AQ.thenR ?_
      refine AQ.ret1 rfl rfl ⟨_, List.nil_sublist _, .nil⟩ (⟨congrArg (fun z => AV.val (.int .i64 z)) hc.symm, rfl⟩)
    · skip
      rw [if_neg (by omega)] at hc
      refine AW.seq ?_
      refine AW.region ?_
      refine AO.op (O.move rfl rfl) rfl rfl rfl ?_
      refine AO.op (O.lenR rfl rfl) rfl rfl rfl ?_
      refine AO.op (O.move rfl rfl) rfl rfl rfl ?_
      refine AO.op (O.lenR rfl rfl) rfl rfl rfl ?_
      refine AO.op (O.gtr rfl rfl rfl (by rfl)) rfl rfl rfl ?_
      refine AO.op (O.assign rfl rfl) rfl rfl rfl ?_
      refine AO.nil ?_
      refine AQ.thenN ?_
      refine AW.split rfl (fun h6 => ?_) (fun h6 => ?_) <;> (try simp only [decide_eq_true_eq, decide_eq_false_iff_not, beq_iff_eq, beq_eq_false_iff_ne, bne_iff_ne, bne_eq_false_iff_eq, Bool.not_eq_true', Bool.not_eq_false', Bool.not_eq_true, Bool.not_eq_false, ne_eq, Int.not_lt, Int.not_le, Bool.and_eq_true, Bool.or_eq_true, Bool.or_eq_false_iff, Bool.and_eq_false_imp, strOf_toList, Decidable.not_not] at h6)
      · skip
        rw [if_pos (by omega)] at hc
        refine AW.seq ?_
        refine AW.region ?_
        refine AO.op (O.assign rfl rfl) rfl rfl rfl ?_
        refine AO.nil ?_
        refine AQ.thenN ?_
        refine AW.ret ?_
        refine AQ.blockR ?_
        refine AQ.thenR ?_
        refine AQ.ret1 rfl rfl ⟨_, List.nil_sublist _, .nil⟩ (⟨congrArg (fun z => AV.val (.int .i64 z)) hc.symm, rfl⟩)
      · skip
        rw [if_neg (by omega)] at hc
        refine AW.skip ?_
        refine AQ.blockN ?_
        refine AQ.thenN ?_
        refine AW.seq ?_
        refine AW.region ?_
        refine AO.op (O.assign rfl rfl) rfl rfl rfl ?_
        refine AO.nil ?_
        refine AQ.thenN ?_
        refine AW.ret ?_
        refine AQ.ret1 rfl rfl ⟨_, List.nil_sublist _, .nil⟩ (⟨congrArg (fun z => AV.val (.int .i64 z)) hc.symm, rfl⟩)

theorem equal26_fn (a b : List UInt8) : Sp Try.prog 30 [roB a, roB b] [] (Is (.val (.bool (a == b)))) := by
  refine Sp.enter Try.func30 rfl _ Try.ntmps30 rfl (fun w0 R0 => ?_)
  refine AW.seq ?_
  refine AW.region ?_
  refine AO.op (O.assign rfl rfl) rfl rfl rfl ?_
  refine AO.nil ?_
  refine AQ.thenN ?_
  refine AW.seq ?_
  refine AW.region ?_
  refine AO.op (O.move rfl rfl) rfl rfl rfl ?_
  refine AO.op (O.move rfl rfl) rfl rfl rfl ?_
  refine AO.op (O.call rfl Try.func49 rfl rfl rfl (compare_fn _ _)) rfl rfl rfl ?_
  refine AO.op (O.eql rfl rfl rfl (by rfl)) rfl rfl rfl ?_
  refine AO.op (O.move rfl rfl) rfl rfl rfl ?_
  refine AO.opG rfl rfl rfl (fun hp => O.move rfl rfl) ?_
  refine AO.opG rfl rfl rfl (fun hp => OpW.force 10 rfl (by exact hp) (O.lenR rfl rfl)) ?_
  refine AO.opG rfl rfl rfl (fun hp => O.move rfl rfl) ?_
  refine AO.opG rfl rfl rfl (fun hp => OpW.force 12 rfl (by exact hp) (O.lenR rfl rfl)) ?_
  refine AO.opG rfl rfl rfl (fun hp => OpW.force 11 rfl (by exact hp) (OpW.force 13 rfl (by exact hp) (O.eql rfl rfl rfl (by rfl)))) ?_
  refine AO.op (O.pickAnd rfl rfl rfl rfl (fun h => by exact h)) rfl rfl rfl ?_
  refine AO.op (O.assign rfl rfl) rfl rfl rfl ?_
  refine AO.nil ?_
  refine AQ.thenN ?_
  refine AW.ret ?_
  have e : ((cmpB a b == 0) && ((a.length : Int) == (b.length : Int))) = (a == b) := by
    rw [Bool.eq_iff_iff]
    simp only [Bool.and_eq_true, beq_iff_eq, cmpB_zero]
    constructor
    · exact fun h => h.1
    · rintro rfl; exact ⟨rfl, rfl⟩
  refine AQ.ret1 rfl rfl ⟨_, List.nil_sublist _, .nil⟩ (⟨congrArg (fun z => AV.val (.bool z)) e, rfl⟩)

/-- A number's bytes, the first not 0 unless it is the only one. -/
def beGo (n : Nat) (out : List UInt8) : List UInt8 := if h : n = 0 then out else beGo (n / 256) (u8 (n : Int) :: out)
termination_by n
decreasing_by omega
def pivB (n : Int) : List UInt8 := if n < 0 ∨ 1099511627775 < n then [] else beGo (n.toNat / 256) [u8 n]
/-- The same from the front: what is there behind the bytes of number 4, 3 .. -/
def rStep (n : Int) (s : Nat) (out : List UInt8) : List UInt8 := if 0 < out.length ∨ (u8 (n / 256 ^ s) ≠ 0) ∨ s = 0 then out ++ [u8 (n / 256 ^ s)] else out
def rGo (n : Int) : Nat → List UInt8
  | 0 => []
  | k + 1 => rStep n (4 - k) (rGo n k)
end Go.Proofs.Ytbmndjjaaeambaa.By

namespace Go.Proofs.Ytbmndjjaaeambaa.By
open Go.RowKit L A
set_option linter.unusedVariables false
set_option linter.unusedSimpArgs false
attribute [local irreducible] AW AQ AO
end Go.Proofs.Ytbmndjjaaeambaa.By

namespace Go.Proofs.Ytbmndjjaaeambaa.By
open Go.RowKit L A Dk
set_option linter.unusedVariables false
set_option linter.unusedSimpArgs false
attribute [local irreducible] AW AQ AO
def msgsA (ms : List Msg) : List AV := ms.flatMap cellsM
def roMs (ms : List Msg) : AV := .ro false ms.length (msgsA ms)
abbrev mat (ms : List Msg) (k : Nat) : Msg := ms.getD k Msg.none
theorem DM.sm {q : Bool} {m : Msg} (h : DM q m) : SmM m := by
  obtain ⟨-, -, -, h4, h5⟩ := h
  exact ⟨by omega, by omega, by have := h5.1.2.1; omega, fun o ho => by have := h5.1.2.2 o ho; omega⟩
end Go.Proofs.Ytbmndjjaaeambaa.By

namespace Go.Proofs.Ytbmndjjaaeambaa.By
open Go.RowKit L A Dk
set_option linter.unusedVariables false
set_option linter.unusedSimpArgs false
attribute [local irreducible] AW AQ AO
def SortO (os : List Opt) : Prop := os.Pairwise fun a b => a.num ≤ b.num
theorem sort3 (n : Int) : ∀ {os : List Opt}, SortO os → ltO os n ++ (os.filter fun o => decide (o.num = n)) ++ gtO os n = os
  | [], _ => rfl
  | o :: os, h => by
    unfold SortO at h
    rw [List.pairwise_cons] at h
    have ih := sort3 n (os := os) h.2
    have hlt : n ≤ o.num → ltO os n = [] := fun h1 => List.filter_eq_nil_iff.2 fun p hp => by have := h.1 p hp; simp; omega
    have heq : n < o.num → (os.filter fun o => decide (o.num = n)) = [] := fun h1 => List.filter_eq_nil_iff.2 fun p hp => by have := h.1 p hp; simp; omega
    unfold ltO gtO at *
    simp only [List.filter_cons]
    rcases Int.lt_trichotomy o.num n with h1 | h1 | h1
    · rw [if_pos (by simpa using h1), if_neg (by simp; omega), if_neg (by simp; omega), List.cons_append, List.cons_append, ih]
    · rw [if_neg (by simp; omega), if_pos (by simpa using h1), if_neg (by simp; omega)]
      rw [hlt (by omega)] at ih ⊢
      rw [List.nil_append] at ih ⊢
      rw [List.cons_append, ih]
    · rw [if_neg (by simp; omega), if_neg (by simp; omega), if_pos (by simpa using h1)]
      rw [hlt (by omega), heq h1] at ih ⊢
      simpa using ih
theorem AscO.sort {l : Int} {os : List Opt} (h : AscO l os) : SortO os := (AscO_iff.1 h).1
theorem outL_set {os : List Opt} {n : Int} {vs : List (List UInt8)} (hs : SortO os) (h2 : cls n ≠ 2) (h6 : n ≠ 6) : outL (setO os n vs) = outL os := by
  have hno : ∀ l : List Opt, (∀ o ∈ l, o.num = n) → outL l = [] := fun l hl => List.filter_eq_nil_iff.2 fun o ho => by rw [hl o ho]; simp [h2, h6]
  have h1 : outL os = outL (ltO os n) ++ outL (os.filter fun o => decide (o.num = n)) ++ outL (gtO os n) := by
    have := congrArg outL (sort3 n hs)
    rw [← this]; unfold outL; rw [List.filter_append, List.filter_append]
  rw [h1, hno (os.filter fun o => decide (o.num = n)) (fun o ho => by simpa using (List.mem_filter.1 ho).2)]
  unfold setO
  have h3 : outL (ltO os n ++ eqO n vs ++ gtO os n) = outL (ltO os n) ++ outL (eqO n vs) ++ outL (gtO os n) := by unfold outL; rw [List.filter_append, List.filter_append]
  rw [h3, hno (eqO n vs) (fun o ho => by unfold eqO at ho; obtain ⟨v, _, rfl⟩ := List.mem_map.1 ho; rfl)]
def hdL : List Int := [1, 4, 5, 8, 11, 12, 14, 15, 17, 20, 23, 27, 28, 60, 252, 258, 292, 300]
theorem hd_ok (k : Nat) (h : k < 18) : cls (hdL.getD k 0) ≠ 2 ∧ hdL.getD k 0 ≠ 6 ∧ hdL.getD k 0 ≠ 9 ∧ hdL.getD k 0 ≠ 35 ∧ 0 ≤ hdL.getD k 0 ∧ hdL.getD k 0 ≤ 65535 := by
  have : ∀ k, k < 18 → cls (hdL.getD k 0) ≠ 2 ∧ hdL.getD k 0 ≠ 6 ∧ hdL.getD k 0 ≠ 9 ∧ hdL.getD k 0 ≠ 35 ∧ 0 ≤ hdL.getD k 0 ∧ hdL.getD k 0 ≤ 65535 := by decide
  exact this k h
/-- What the second message's options are on the way. -/
def HOk (os0 : List Opt) (n : Nat) (os : List Opt) : Prop := AscO 0 os ∧ os.length ≤ 5 + n ∧ (∀ o ∈ os, o.val.length ≤ 5) ∧ (∀ o ∈ os, o.num ≠ 9 ∧ o.num ≠ 35) ∧ outL os = outL os0
theorem setO_one (os : List Opt) (n : Int) (v : List UInt8) : (setO os n [v]).length ≤ os.length + 1 := by
  have := setO_count n os
  simp only [setO, List.length_append, eqO_len, List.length_cons, List.length_nil]; omega
theorem HOk.set {os0 os : List Opt} {k : Nat} (h : HOk os0 k os) (hk : k < 18) {v : List UInt8} (hv : v.length ≤ 3) : HOk os0 (k + 1) (setO os (hdL.getD k 0) [v]) := by
  obtain ⟨h1, h2, h3, h4, h5⟩ := h
  obtain ⟨c1, c2, c3, c4, c5, c6⟩ := hd_ok k hk
  refine ⟨setO_asc h1 ⟨c5, c6⟩ (fun w hw => by rw [List.mem_singleton.1 hw]; omega), by have := setO_one os (hdL.getD k 0) v; omega, fun o ho => ?_, fun o ho => ?_, by rw [outL_set h1.sort c1 c2, h5]⟩
  · rcases setO_mem ho with ho | ⟨w, hw, rfl⟩
    · exact h3 o ho
    · rw [List.mem_singleton.1 hw]; simp only; omega
  · rcases setO_mem ho with ho | ⟨w, hw, rfl⟩
    · exact h4 o ho
    · exact ⟨c3, c4⟩
theorem badB_no {os : List Opt} (h : ∀ o ∈ os, o.num ≠ 9 ∧ o.num ≠ 35) : ¬ badB os = true := by
  unfold badB
  rw [List.any_eq_true]
  rintro ⟨o, ho, h1⟩
  have h2 : o.num = 9 ∨ o.num = 35 := by simpa using h1
  exact h2.elim (h o ho).1 (h o ho).2
theorem DM.bad {q : Bool} {m : Msg} (h : DM q m) : ∀ o ∈ m.opts, o.num ≠ 9 ∧ o.num ≠ 35 := fun o ho => by
  have : ∀ n ∈ drL, n ≠ 9 ∧ n ≠ 35 := by decide
  exact this _ (h.2.2.2.2.2 o ho)
theorem DM.split {q : Bool} {m : Msg} (h : DM q m) : splitR m = (inM m, outM m, 0) := by
  have hor : rq m.code = true ∨ rs m.code = true := by
    obtain ⟨-, h1, h2⟩ := h.code
    cases q
    · exact .inr h2
    · exact .inl h1
  rw [splitR, if_pos ⟨h.val, hor⟩, if_neg (badB_no h.bad)]
theorem DM.hok {q : Bool} {m : Msg} (h : DM q m) : HOk m.opts 0 m.opts := ⟨h.2.2.2.2.1.1, h.2.2.2.2.1.2.1, h.2.2.2.2.1.2.2, h.bad, rfl⟩
end Go.Proofs.Ytbmndjjaaeambaa.By

namespace Go.Proofs.Ytbmndjjaaeambaa.By
open Go.RowKit L A
set_option linter.unusedVariables false
set_option linter.unusedSimpArgs false
attribute [local irreducible] AW AQ AO
/-- Where an option goes. -/
def posO (os : List Opt) (n : Int) : Nat → Nat
  | 0 => 0
  | i + 1 => if n < (oat os i).num then posO os n i else i + 1
theorem posO_le (os : List Opt) (n : Int) : ∀ i, posO os n i ≤ i
  | 0 => Nat.le_refl _
  | i + 1 => by
    rw [posO]
    split
    · have := posO_le os n i; omega
    · exact Nat.le_refl _
def insO (os : List Opt) (o : Opt) : List Opt := os.take (posO os o.num os.length) ++ ([o] ++ os.drop (posO os o.num os.length))
theorem insO_len (os : List Opt) (o : Opt) : (insO os o).length = os.length + 1 := by
  have := posO_le os o.num os.length
  simp only [insO, List.length_append, List.length_take, List.length_drop, List.length_cons, List.length_nil]; omega
def insAll (l : List Opt) : List Opt := l.foldl insO []
theorem insAll_snoc (l : List Opt) (o : Opt) : insAll (l ++ [o]) = insO (insAll l) o := by unfold insAll; rw [List.foldl_append]; rfl
theorem insAll_len (l : List Opt) : (insAll l).length = l.length := by
  have : ∀ (l : List Opt) (a : List Opt), (l.foldl insO a).length = a.length + l.length := by
    intro l
    induction l with
    | nil => intro a; simp
    | cons o l ih => intro a; rw [List.foldl_cons, ih, insO_len, List.length_cons]; omega
  have := this l []
  rw [insAll, this]; simp
def jo (o : Opt) : Bool := decide (cls o.num = 2) && decide (o.num ≠ 9)
def outJ (os : List Opt) : List Opt := os.filter jo
theorem outJ_snoc (os : List Opt) (o : Opt) : outJ (os ++ [o]) = if cls o.num = 2 ∧ o.num ≠ 9 then outJ os ++ [o] else outJ os := by
  unfold outJ
  rw [List.filter_append]
  by_cases h : cls o.num = 2 ∧ o.num ≠ 9
  · rw [if_pos h]; simp [jo, h.1, h.2]
  · rw [if_neg h, List.filter_cons_of_neg (by unfold jo; simpa using h)]; simp
theorem outJ_len (os : List Opt) : (outJ os).length ≤ os.length := List.length_filter_le _ _
def clsB (os : List Opt) : Bool := os.any fun o => decide (cls o.num = 2)
def joinR (outer inner : Msg) : Msg × Int :=
  if rq inner.code = true ∨ rs inner.code = true then
    (if rq inner.code = rq outer.code ∧ rs inner.code = rs outer.code then
      (if clsB inner.opts = true then (Msg.none, 4) else (⟨outer.ty, inner.code, outer.id, outer.tok, insAll (inner.opts ++ outJ outer.opts), inner.pay⟩, 0))
    else (Msg.none, 18))
  else (Msg.none, 1)
abbrev res2 (r : Msg × Int) : AV := .tup [aggM r.1, .val (.int .i64 r.2)]
theorem ret2M {r : Msg × Int} {a : Msg} {e : Int} (h : r = (a, e)) : Is (res2 r) (.tup [aggM a, .val (.int .i64 e)]) [] := by rw [h]; exact ⟨rfl, rfl⟩
def TameM (m : Msg) : Prop := m.tok.length ≤ 4294967296 ∧ m.pay.length ≤ 4294967296 ∧ m.opts.length ≤ 100000 ∧ ∀ k, k < m.opts.length → (oat m.opts k).val.length ≤ 4294967296
theorem optsA_take (os : List Opt) (n : Nat) : (optsA os).take (n * 2) = optsA (os.take n) := flat_take cellsO_len os n
theorem optsA_drop (os : List Opt) (n : Nat) : (optsA os).drop (n * 2) = optsA (os.drop n) := flat_drop cellsO_len os n
theorem one_part {xs : List AV} (h : xs.all AV.one = true) (a b : Nat) : ((xs.drop a).take b).all AV.one = true := by
  rw [List.all_eq_true] at h ⊢
  exact fun x hx => h x (List.mem_of_mem_drop (List.mem_of_mem_take hx))
theorem CoeL.of_eq {xs ys : List AV} (h : xs = ys) : CoeL xs ys := h ▸ CoeL.refl
theorem ins_cells {os : List Opt} {o : Opt} {p a b c : Nat} (hp : p = posO os o.num os.length) (ha : a = p * 2) (hb : b = (os.length - p) * 2) (hc : c = p * 2) :
    (optsA os).take a ++ (.val (.int .i64 o.num) :: roB o.val :: ((optsA os).drop c).take b) = optsA (insO os o) := by
  subst ha
  subst hb
  subst hc
  rw [insO, ← hp, optsA_app, optsA_app, ← optsA_take, ← optsA_drop, List.take_of_length_le (l := (optsA os).drop (p * 2)) (by rw [List.length_drop, optsA_len]; omega)]
  rfl
theorem ins_cells1 {os : List Opt} {o : Opt} {p a : Nat} (hp : p = posO os o.num os.length) (ha : a = p * 2) (hb : p = os.length) :
    (optsA os).take a ++ [.val (.int .i64 o.num), roB o.val] = optsA (insO os o) := by
  have := ins_cells (b := 0) (c := p * 2) hp ha (by omega) rfl
  simpa using this
set_option maxHeartbeats 8000000 in
theorem join_fn (outer inner : Msg) (ho : TameM outer) (hi : TameM inner) : Sp Try.prog 25 [aggM outer, aggM inner] [] (Is (res2 (joinR outer inner))) := by
  obtain ⟨a1, a2, a3, a4⟩ := ho
  obtain ⟨b1, b2, b3, b4⟩ := hi
  refine Sp.enter Try.func25 rfl _ Try.ntmps25 rfl (fun w0 R0 => ?_)
  refine AW.seq ?_
  refine AW.region ?_
  refine AO.opB (O.box rfl rfl rfl rfl rfl) rfl rfl rfl ?_
  intro B1
  refine AO.opB (O.box rfl rfl rfl rfl rfl) rfl rfl rfl ?_
  intro B2
  refine AO.opB (O.alloc rfl (by (dsimp only [List.set, List.append, List.cons_append, List.nil_append, roB_cells, roI_cells, roO_cells, splice, ofConst, AV.cells, List.map, List.map_cons, List.map_nil, List.take, List.drop, Nat.zero_add, Nat.add_zero, Nat.reduceAdd, Nat.reduceMul, Nat.zero_mul, Value.cells, List.toList_toArray, zerosA, List.replicate, List.flatten, List.append_nil]; done)) (by rfl)) rfl rfl rfl ?_
  intro B3
  refine AO.op (O.assign rfl rfl) rfl rfl rfl ?_
  refine AO.nil ?_
  refine AQ.thenN ?_
  refine AW.seq ?_
  refine AW.seq ?_
  refine AW.region ?_
  refine AO.op (O.fieldAddr rfl rfl) rfl rfl rfl ?_
  refine AO.op (O.load rfl rfl (by repeat (first | exact List.Mem.head _ | refine List.Mem.tail _ ?_)) (by rfl)) rfl rfl rfl ?_
  refine AO.op (O.call rfl Try.func42 rfl rfl rfl (sreq_fn inner.code)) rfl rfl rfl ?_
  refine AO.op (O.not rfl rfl (by rfl)) rfl rfl rfl ?_
  refine AO.op (O.move rfl rfl) rfl rfl rfl ?_
  refine AO.opG rfl rfl rfl (fun hp => O.fieldAddr rfl rfl) ?_
  refine AO.opG rfl rfl rfl (fun hp => OpW.force 20 rfl (by exact hp) (O.load rfl rfl (by repeat (first | exact List.Mem.head _ | refine List.Mem.tail _ ?_)) (by rfl))) ?_
  refine AO.opG rfl rfl rfl (fun hp => OpW.force 21 rfl (by exact hp) (O.call rfl Try.func43 rfl rfl rfl (sresp_fn inner.code))) ?_
  refine AO.opG rfl rfl rfl (fun hp => OpW.force 22 rfl (by exact hp) (O.not rfl rfl (by rfl))) ?_
  refine AO.op (O.pickAnd rfl rfl rfl rfl (fun h => by exact h)) rfl rfl rfl ?_
  refine AO.nil ?_
  refine AQ.thenN ?_
  refine AW.split rfl (fun h => ?_) (fun h => ?_) <;> (try simp only [decide_eq_true_eq, decide_eq_false_iff_not, beq_iff_eq, beq_eq_false_iff_ne, bne_iff_ne, bne_eq_false_iff_eq, Bool.not_eq_true', Bool.not_eq_false', Bool.not_eq_true, Bool.not_eq_false, ne_eq, Int.not_lt, Int.not_le, Bool.and_eq_true, Bool.or_eq_true, Bool.or_eq_false_iff, Bool.and_eq_false_imp, strOf_toList, Decidable.not_not] at h)
  · skip
    have e : joinR outer inner = (Msg.none, 1) := if_neg (by rw [h.1, h.2]; simp)
    refine AW.seq ?_
    refine AW.region ?_
    refine AO.op (O.build rfl rfl rfl (by rfl)) rfl rfl rfl ?_
    (refine AO.store (i := 0) rfl rfl rfl rfl rfl rfl (by rfl) (by rfl) (by rfl) (by (dsimp only [List.set, List.append, List.cons_append, List.nil_append, roB_cells, roI_cells, roO_cells, splice, ofConst, AV.cells, List.map, List.map_cons, List.map_nil, List.take, List.drop, Nat.zero_add, Nat.add_zero, Nat.reduceAdd, Nat.reduceMul, Nat.zero_mul, Value.cells, List.toList_toArray, zerosA, List.replicate, List.flatten, List.append_nil]; done)) (by (dsimp only [List.set, List.append, List.cons_append, List.nil_append, roB_cells, roI_cells, roO_cells, splice, ofConst, AV.cells, List.map, List.map_cons, List.map_nil, List.take, List.drop, Nat.zero_add, Nat.add_zero, Nat.reduceAdd, Nat.reduceMul, Nat.zero_mul, Value.cells, List.toList_toArray, zerosA, List.replicate, List.flatten, List.append_nil]; done)) ?_)
    refine AO.op (O.assign rfl rfl) rfl rfl rfl ?_
    refine AO.nil ?_
    refine AQ.thenN ?_
    refine AW.ret ?_
    refine AQ.thenR ?_
    refine FnQ.coe (AQ.retCT rfl rfl rfl (by repeat (exact List.Mem.head _)) (by (dsimp only [List.set, List.append, List.cons_append, List.nil_append, roB_cells, roI_cells, roO_cells, splice, ofConst, AV.cells, List.map, List.map_cons, List.map_nil, List.take, List.drop, Nat.zero_add, Nat.add_zero, Nat.reduceAdd, Nat.reduceMul, Nat.zero_mul, Value.cells, List.toList_toArray, zerosA, List.replicate, List.flatten, List.append_nil]; done)) (by rfl) ⟨_, List.nil_sublist _, .nil⟩ ⟨rfl, rfl⟩) (Coe.tup (by (repeat (first | exact CoeL.nil | refine CoeL.cons Coe.rfl ?_ | refine CoeL.cons Coe.nil ?_ | refine CoeL.cons (Coe.agg ?_) ?_)); done)) (ret2M e)
  · skip
    have hc : rq inner.code = true ∨ rs inner.code = true := by cases hq : rq inner.code <;> simp_all
    refine AW.skip ?_
    refine AQ.thenN ?_
    refine AW.seq ?_
    refine AW.seq ?_
    refine AW.regionD 16 (by kernel_rfl) (by kernel_rfl) ?_
    simp only [List.take_succ_cons, List.take_zero, List.drop_succ_cons, List.drop_zero]
    refine FA.op (O.fieldAddr rfl rfl) rfl rfl rfl rfl ?_
    refine FA.op (O.load rfl rfl (by repeat (first | exact List.Mem.head _ | refine List.Mem.tail _ ?_)) (by rfl)) rfl rfl rfl rfl ?_
    refine FA.op (O.call rfl Try.func42 rfl rfl rfl (sreq_fn inner.code)) rfl rfl rfl rfl ?_
    refine FA.op (O.fieldAddr rfl rfl) rfl rfl rfl rfl ?_
    refine FA.op (O.load rfl rfl (by repeat (first | exact List.Mem.head _ | refine List.Mem.tail _ ?_)) (by rfl)) rfl rfl rfl rfl ?_
    refine FA.op (O.call rfl Try.func42 rfl rfl rfl (sreq_fn outer.code)) rfl rfl rfl rfl ?_
    refine FA.op (O.neqB rfl rfl rfl (by rfl)) rfl rfl rfl rfl ?_
    refine FA.op (O.move rfl rfl) rfl rfl rfl rfl ?_
    refine FA.opG rfl rfl rfl rfl (fun hp => O.fieldAddr rfl rfl) ?_
    refine FA.opG rfl rfl rfl rfl (fun hp => OpW.force 34 rfl (by exact hp) (O.load rfl rfl (by repeat (first | exact List.Mem.head _ | refine List.Mem.tail _ ?_)) (by rfl))) ?_
    refine FA.opG rfl rfl rfl rfl (fun hp => OpW.force 35 rfl (by exact hp) (O.call rfl Try.func43 rfl rfl rfl (sresp_fn inner.code))) ?_
    refine FA.opG rfl rfl rfl rfl (fun hp => O.fieldAddr rfl rfl) ?_
    refine FA.opG rfl rfl rfl rfl (fun hp => OpW.force 37 rfl (by exact hp) (O.load rfl rfl (by repeat (first | exact List.Mem.head _ | refine List.Mem.tail _ ?_)) (by rfl))) ?_
    refine FA.opG rfl rfl rfl rfl (fun hp => OpW.force 38 rfl (by exact hp) (O.call rfl Try.func43 rfl rfl rfl (sresp_fn outer.code))) ?_
    refine FA.opG rfl rfl rfl rfl (fun hp => OpW.force 36 rfl (by exact hp) (OpW.force 39 rfl (by exact hp) (O.neqB rfl rfl rfl (by rfl)))) ?_
    refine FA.op (O.pickOr rfl rfl rfl rfl (fun h => by exact congrArg (fun b => !b) h)) rfl rfl rfl rfl ?_
    refine FA.nil ?_
    simp only [chosen, List.nil_append, List.cons_append, List.append_nil]
    refine AO.nil ?_
    refine AQ.thenN ?_
    refine AW.split rfl (fun hm => ?_) (fun hm => ?_) <;> (try simp only [decide_eq_true_eq, decide_eq_false_iff_not, beq_iff_eq, beq_eq_false_iff_ne, bne_iff_ne, bne_eq_false_iff_eq, Bool.not_eq_true', Bool.not_eq_false', Bool.not_eq_true, Bool.not_eq_false, ne_eq, Int.not_lt, Int.not_le, Bool.and_eq_true, Bool.or_eq_true, Bool.or_eq_false_iff, Bool.and_eq_false_imp, strOf_toList, Decidable.not_not] at hm)
    · skip
      have e : joinR outer inner = (Msg.none, 18) := by
        rw [joinR, if_pos hc, if_neg]
        rintro ⟨k1, k2⟩
        rw [k1, k2] at hm
        simp at hm
      refine AW.seq ?_
      refine AW.region ?_
      refine AO.op (O.build rfl rfl rfl (by rfl)) rfl rfl rfl ?_
      (refine AO.store (i := 0) rfl rfl rfl rfl rfl rfl (by rfl) (by rfl) (by rfl) (by (dsimp only [List.set, List.append, List.cons_append, List.nil_append, roB_cells, roI_cells, roO_cells, splice, ofConst, AV.cells, List.map, List.map_cons, List.map_nil, List.take, List.drop, Nat.zero_add, Nat.add_zero, Nat.reduceAdd, Nat.reduceMul, Nat.zero_mul, Value.cells, List.toList_toArray, zerosA, List.replicate, List.flatten, List.append_nil]; done)) (by (dsimp only [List.set, List.append, List.cons_append, List.nil_append, roB_cells, roI_cells, roO_cells, splice, ofConst, AV.cells, List.map, List.map_cons, List.map_nil, List.take, List.drop, Nat.zero_add, Nat.add_zero, Nat.reduceAdd, Nat.reduceMul, Nat.zero_mul, Value.cells, List.toList_toArray, zerosA, List.replicate, List.flatten, List.append_nil]; done)) ?_)
      refine AO.op (O.assign rfl rfl) rfl rfl rfl ?_
      refine AO.nil ?_
      refine AQ.thenN ?_
      refine AW.ret ?_
      refine AQ.thenR ?_
      refine FnQ.coe (AQ.retCT rfl rfl rfl (by repeat (exact List.Mem.head _)) (by (dsimp only [List.set, List.append, List.cons_append, List.nil_append, roB_cells, roI_cells, roO_cells, splice, ofConst, AV.cells, List.map, List.map_cons, List.map_nil, List.take, List.drop, Nat.zero_add, Nat.add_zero, Nat.reduceAdd, Nat.reduceMul, Nat.zero_mul, Value.cells, List.toList_toArray, zerosA, List.replicate, List.flatten, List.append_nil]; done)) (by rfl) ⟨_, List.nil_sublist _, .nil⟩ ⟨rfl, rfl⟩) (Coe.tup (by (repeat (first | exact CoeL.nil | refine CoeL.cons Coe.rfl ?_ | refine CoeL.cons Coe.nil ?_ | refine CoeL.cons (Coe.agg ?_) ?_)); done)) (ret2M e)
    · skip
      have hm2 : rq inner.code = rq outer.code ∧ rs inner.code = rs outer.code := by simpa using hm
      refine AW.skip ?_
      refine AQ.thenN ?_
      refine AW.seq ?_
      refine AW.regionD 14 (by kernel_rfl) (by kernel_rfl) ?_
      simp only [List.take_succ_cons, List.take_zero, List.drop_succ_cons, List.drop_zero]
      refine FA.op (O.fieldAddr rfl rfl) rfl rfl rfl rfl ?_
      refine FA.op (O.load rfl rfl (by repeat (first | exact List.Mem.head _ | refine List.Mem.tail _ ?_)) (by rfl)) rfl rfl rfl rfl ?_
      refine FA.op (O.fieldAddr rfl rfl) rfl rfl rfl rfl ?_
      refine FA.op (O.load rfl rfl (by repeat (first | exact List.Mem.head _ | refine List.Mem.tail _ ?_)) (by rfl)) rfl rfl rfl rfl ?_
      refine FA.op (O.fieldAddr rfl rfl) rfl rfl rfl rfl ?_
      refine FA.op (O.load rfl rfl (by repeat (first | exact List.Mem.head _ | refine List.Mem.tail _ ?_)) (by rfl)) rfl rfl rfl rfl ?_
      refine FA.op (OpW.frzR (O.appendNil rfl (by rfl) (by rfl) rfl rfl (by exact SrcA.ro TyD.ax (by (simp; done)) (Nat.le_of_ble_eq_true rfl)) (by (simp [AV.cells, AV.one, *]; done)) (by (unfold maxLen; omega)) (by omega))) rfl rfl rfl rfl ?_
      refine FA.op (O.fieldAddr rfl rfl) rfl rfl rfl rfl ?_
      refine FA.op (O.load rfl rfl (by repeat (first | exact List.Mem.head _ | refine List.Mem.tail _ ?_)) (by rfl)) rfl rfl rfl rfl ?_
      refine FA.op (O.fieldAddr rfl rfl) rfl rfl rfl rfl ?_
      refine FA.op (O.load rfl rfl (by repeat (first | exact List.Mem.head _ | refine List.Mem.tail _ ?_)) (by rfl)) rfl rfl rfl rfl ?_
      refine FA.op (OpW.frzR (O.appendNil rfl (by rfl) (by rfl) rfl rfl (by exact SrcA.ro TyD.ax (by (simp; done)) (Nat.le_of_ble_eq_true rfl)) (by (simp [AV.cells, AV.one, *]; done)) (by (unfold maxLen; omega)) (by omega))) rfl rfl rfl rfl ?_
      refine FA.op (O.build rfl rfl rfl (by rfl)) rfl rfl rfl rfl ?_
      refine FA.opN (O.alloc rfl (by (dsimp only [List.set, List.append, List.cons_append, List.nil_append, roB_cells, roI_cells, roO_cells, splice, ofConst, AV.cells, List.map, List.map_cons, List.map_nil, List.take, List.drop, Nat.zero_add, Nat.add_zero, Nat.reduceAdd, Nat.reduceMul, Nat.zero_mul, Value.cells, List.toList_toArray, zerosA, List.replicate, List.flatten, List.append_nil]; done)) (by rfl)) rfl rfl rfl rfl ?_
      refine FA.nil ?_
      simp only [chosen, List.nil_append, List.cons_append, List.append_nil]
      rintro _ _ ⟨B4, rfl, rfl⟩
      simp only [List.cons_append, List.nil_append]
      (refine AO.store (i := 0) rfl rfl rfl rfl rfl rfl (by rfl) (by rfl) (by rfl) (by (dsimp only [List.set, List.append, List.cons_append, List.nil_append, roB_cells, roI_cells, roO_cells, splice, ofConst, AV.cells, List.map, List.map_cons, List.map_nil, List.take, List.drop, Nat.zero_add, Nat.add_zero, Nat.reduceAdd, Nat.reduceMul, Nat.zero_mul, Value.cells, List.toList_toArray, zerosA, List.replicate, List.flatten, List.append_nil]; done)) (by (dsimp only [List.set, List.append, List.cons_append, List.nil_append, roB_cells, roI_cells, roO_cells, splice, ofConst, AV.cells, List.map, List.map_cons, List.map_nil, List.take, List.drop, Nat.zero_add, Nat.add_zero, Nat.reduceAdd, Nat.reduceMul, Nat.zero_mul, Value.cells, List.toList_toArray, zerosA, List.replicate, List.flatten, List.append_nil]; done)) ?_)
      refine AO.nil ?_
      refine AQ.thenN ?_
      refine AW.seq ?_
      refine AW.region ?_
      refine AO.op (O.assign rfl rfl) rfl rfl rfl ?_
      refine AO.nil ?_
      refine AQ.thenN ?_
      refine AW.seq ?_
      refine AW.seq ?_
      refine AW.region ?_
      refine AO.op (O.fieldAddr rfl rfl) rfl rfl rfl ?_
      refine AO.op (O.load rfl rfl (by repeat (first | exact List.Mem.head _ | refine List.Mem.tail _ ?_)) (by rfl)) rfl rfl rfl ?_
      refine AO.op (O.lenR rfl rfl) rfl rfl rfl ?_
      refine AO.op (O.move rfl rfl) rfl rfl rfl ?_
      refine AO.nil ?_
      refine AQ.thenN ?_
      refine AW.block ?_
      refine AW.g ?_
      refine G.nilRow 62 2 ?_
      refine AW.u ?_
      refine AW.loopK [(2, _), (4, _), (6, _), (57, _), (58, _)] (fun nn E H => ∃ (k : Nat) (V : Value), (k ≤ inner.opts.length) ∧ (V.oneCell' = true) ∧ (clsB (inner.opts.take k) = false) ∧ nn = inner.opts.length - k ∧ E = [(7, .val V), (59, .val (.int .i64 (k : Int)))] ∧ H = [.row V 62 2 (inner.opts.take k).length (optsA (inner.opts.take k)), .blk B4 29 6 [.val (.int .i64 outer.ty), .val (.int .i64 inner.code), .val (.int .i64 outer.id), roB outer.tok, .val (.slice none 0 0), roB inner.pay], .blk B3 29 6 [.val (.int .i64 0), .val (.int .i64 0), .val (.int .i64 0), .val (.slice none 0 0), .val (.slice none 0 0), .val (.slice none 0 0)], .blk B1 29 6 [.val (.int .i64 outer.ty), .val (.int .i64 outer.code), .val (.int .i64 outer.id), roB outer.tok, roO outer.opts, roB outer.pay]]) _ (⟨0, _, by omega, rfl, rfl, rfl, rfl, rfl⟩) (by repeat (first | exact envNil | refine envCons rfl ?_)) (by repeat (first | exact envNil | refine envCons rfl ?_)) (by repeat (first | exact subPnil | refine subPcons 0 rfl ?_ | refine subPcons 1 rfl ?_)) ?_
      rintro nn E H ⟨k, V, hk, hV, hb, rfl, rfl, rfl⟩
      dsimp only [List.cons_append, List.nil_append]
      have hlk : (inner.opts.take k).length = k := by rw [List.length_take]; omega
      refine AW.seq ?_
      refine AW.region ?_
      refine AO.op (O.lss rfl rfl rfl (by rfl)) rfl rfl rfl ?_
      refine AO.nil ?_
      refine AQ.thenN ?_
      refine AW.seq ?_
      refine AW.split rfl (fun h2 => ?_) (fun h2 => ?_) <;> (try simp only [decide_eq_true_eq, decide_eq_false_iff_not, beq_iff_eq, beq_eq_false_iff_ne, bne_iff_ne, bne_eq_false_iff_eq, Bool.not_eq_true', Bool.not_eq_false', Bool.not_eq_true, Bool.not_eq_false, ne_eq, Int.not_lt, Int.not_le, Bool.and_eq_true, Bool.or_eq_true, Bool.or_eq_false_iff, Bool.and_eq_false_imp, strOf_toList, Decidable.not_not] at h2)
      · skip
        have hkk : k < inner.opts.length := by omega
        have hv4 := b4 k hkk
        have hts : inner.opts.take (k + 1) = inner.opts.take k ++ [oat inner.opts k] := take_snoc Opt.none hkk
        refine AW.skip ?_
        refine AQ.thenN ?_
        refine AW.seq ?_
        refine AW.block ?_
        refine AW.seq ?_
        refine AW.region ?_
        refine AO.op (O.idxR rfl rfl rfl ⟨(by omega), (by omega)⟩) rfl rfl rfl ?_
        refine AO.op (O.loadRK rfl rfl (by exact getO (by omega) (by omega)) (by rfl)) rfl rfl rfl ?_
        refine AO.opB (O.alloc rfl (by (dsimp only [List.set, List.append, List.cons_append, List.nil_append, roB_cells, roI_cells, roO_cells, splice, ofConst, AV.cells, List.map, List.map_cons, List.map_nil, List.take, List.drop, Nat.zero_add, Nat.add_zero, Nat.reduceAdd, Nat.reduceMul, Nat.zero_mul, Value.cells, List.toList_toArray, zerosA, List.replicate, List.flatten, List.append_nil]; done)) (by rfl)) rfl rfl rfl ?_
        intro B5
        (refine AO.store (i := 0) rfl rfl rfl rfl rfl rfl (by rfl) (by rfl) (by rfl) (by (dsimp only [List.set, List.append, List.cons_append, List.nil_append, roB_cells, roI_cells, roO_cells, splice, ofConst, AV.cells, List.map, List.map_cons, List.map_nil, List.take, List.drop, Nat.zero_add, Nat.add_zero, Nat.reduceAdd, Nat.reduceMul, Nat.zero_mul, Value.cells, List.toList_toArray, zerosA, List.replicate, List.flatten, List.append_nil]; done)) (by (dsimp only [List.set, List.append, List.cons_append, List.nil_append, roB_cells, roI_cells, roO_cells, splice, ofConst, AV.cells, List.map, List.map_cons, List.map_nil, List.take, List.drop, Nat.zero_add, Nat.add_zero, Nat.reduceAdd, Nat.reduceMul, Nat.zero_mul, Value.cells, List.toList_toArray, zerosA, List.replicate, List.flatten, List.append_nil]; done)) ?_)
        refine AO.nil ?_
        refine AQ.thenN ?_
        refine AW.seq ?_
        refine AW.seq ?_
        refine AW.region ?_
        refine AO.op (O.fieldAddr rfl rfl) rfl rfl rfl ?_
        refine AO.op (O.load rfl rfl (by repeat (exact List.Mem.head _)) (by rfl)) rfl rfl rfl ?_
        refine AO.op (O.call rfl Try.func9 rfl rfl rfl (class_fn _)) rfl rfl rfl ?_
        refine AO.op (O.eql rfl rfl rfl (by rfl)) rfl rfl rfl ?_
        refine AO.nil ?_
        refine AQ.thenN ?_
        refine AW.split rfl (fun h3 => ?_) (fun h3 => ?_) <;> (try simp only [decide_eq_true_eq, decide_eq_false_iff_not, beq_iff_eq, beq_eq_false_iff_ne, bne_iff_ne, bne_eq_false_iff_eq, Bool.not_eq_true', Bool.not_eq_false', Bool.not_eq_true, Bool.not_eq_false, ne_eq, Int.not_lt, Int.not_le, Bool.and_eq_true, Bool.or_eq_true, Bool.or_eq_false_iff, Bool.and_eq_false_imp, strOf_toList, Decidable.not_not] at h3)
        · skip
          have e : joinR outer inner = (Msg.none, 4) := by
            rw [joinR, if_pos hc, if_pos hm2, if_pos]
            exact List.any_eq_true.2 ⟨oat inner.opts k, getD_mem _ hkk, by simpa using h3⟩
          refine AW.seq ?_
          refine AW.region ?_
          refine AO.op (O.build rfl rfl rfl (by rfl)) rfl rfl rfl ?_
          (refine AO.store (i := 3) rfl rfl rfl rfl rfl rfl (by rfl) (by rfl) (by rfl) (by (dsimp only [List.set, List.append, List.cons_append, List.nil_append, roB_cells, roI_cells, roO_cells, splice, ofConst, AV.cells, List.map, List.map_cons, List.map_nil, List.take, List.drop, Nat.zero_add, Nat.add_zero, Nat.reduceAdd, Nat.reduceMul, Nat.zero_mul, Value.cells, List.toList_toArray, zerosA, List.replicate, List.flatten, List.append_nil]; done)) (by (dsimp only [List.set, List.append, List.cons_append, List.nil_append, roB_cells, roI_cells, roO_cells, splice, ofConst, AV.cells, List.map, List.map_cons, List.map_nil, List.take, List.drop, Nat.zero_add, Nat.add_zero, Nat.reduceAdd, Nat.reduceMul, Nat.zero_mul, Value.cells, List.toList_toArray, zerosA, List.replicate, List.flatten, List.append_nil]; done)) ?_)
          refine AO.op (O.assign rfl rfl) rfl rfl rfl ?_
          refine AO.nil ?_
          refine AQ.thenN ?_
          refine AW.ret ?_
          refine AQ.thenR ?_
          refine AQ.blockR ?_
          refine AQ.thenR ?_
          refine AQ.loopR ?_
          refine AQ.blockR ?_
          refine AQ.thenR ?_
          refine FnQ.coe (AQ.retCT rfl rfl rfl (by repeat (first | exact List.Mem.head _ | refine List.Mem.tail _ ?_)) (by (dsimp only [List.set, List.append, List.cons_append, List.nil_append, roB_cells, roI_cells, roO_cells, splice, ofConst, AV.cells, List.map, List.map_cons, List.map_nil, List.take, List.drop, Nat.zero_add, Nat.add_zero, Nat.reduceAdd, Nat.reduceMul, Nat.zero_mul, Value.cells, List.toList_toArray, zerosA, List.replicate, List.flatten, List.append_nil]; done)) (by rfl) ⟨_, List.nil_sublist _, .nil⟩ ⟨rfl, rfl⟩) (Coe.tup (by (repeat (first | exact CoeL.nil | refine CoeL.cons Coe.rfl ?_ | refine CoeL.cons Coe.nil ?_ | refine CoeL.cons (Coe.agg ?_) ?_)); done)) (ret2M e)
        · skip
          have hb' : clsB (inner.opts.take (k + 1)) = false := by
            rw [hts]; unfold clsB at hb ⊢; rw [List.any_append, hb]; simp only [List.any_cons, List.any_nil, Bool.false_or, Bool.or_false]; exact decide_eq_false h3
          refine AW.skip ?_
          refine AQ.thenN ?_
          refine AW.region ?_
          refine AO.op (O.move rfl rfl) rfl rfl rfl ?_
          (refine AO.op (O.loadK rfl rfl (by repeat (exact List.Mem.head _)) (by (dsimp only [List.set, List.append, List.cons_append, List.nil_append, roB_cells, roI_cells, roO_cells, splice, ofConst, AV.cells, List.map, List.map_cons, List.map_nil, List.take, List.drop, Nat.zero_add, Nat.add_zero, Nat.reduceAdd, Nat.reduceMul, Nat.zero_mul, Value.cells, List.toList_toArray, zerosA, List.replicate, List.flatten, List.append_nil]; done)) (by rfl)) rfl rfl rfl ?_)
          refine AO.op (O.call rfl Try.func44 rfl rfl rfl (copied_fn (oat inner.opts k) hv4)) rfl rfl rfl ?_
          refine AO.opB (O.buildSlice rfl rfl rfl (by rfl) (by rfl) (by rfl) (by rfl)) rfl rfl rfl ?_
          intro B6
          refine AO.g ?_
          (refine G.freezeSl 0 71 rfl rfl ⟨Nat.le_refl _, by unfold maxLen; omega⟩ ?_)
          refine G.unfull 71 rfl ?_
          refine AO.u ?_
          dsimp only [List.eraseIdx]
          (refine AO.append' (i := 1) rfl rfl rfl rfl (by rfl) (by rfl) rfl rfl rfl (by exact SrcA.ro TyD.ax (by rfl) (Nat.le_of_ble_eq_true rfl)) (by rfl) (by (unfold maxLen; omega)) (by omega) (by (dsimp only [List.set, List.append, List.cons_append, List.nil_append, roB_cells, roI_cells, roO_cells, splice, ofConst, AV.cells, List.map, List.map_cons, List.map_nil, List.take, List.drop, Nat.zero_add, Nat.add_zero, Nat.reduceAdd, Nat.reduceMul, Nat.zero_mul, Value.cells, List.toList_toArray, zerosA, List.replicate, List.flatten, List.append_nil]; done)) (fun _ => by (dsimp only [List.set]; done)) ?_)
          intro V7 hV7
          refine AO.op (O.assign rfl rfl) rfl rfl rfl ?_
          refine AO.nil ?_
          refine AQ.blockN ?_
          refine AQ.thenN ?_
          refine AW.region ?_
          refine AO.op (O.add rfl rfl rfl (by exact wI64 (by omega))) rfl rfl rfl ?_
          refine AO.op (O.move rfl rfl) rfl rfl rfl ?_
          refine AO.nil ?_
          refine AQ.loopKN _ _ _ (by omega) (⟨k + 1, _, by omega, ‹_›, hb', rfl, rfl, by rw [hts, optsA_snoc, List.length_append]⟩) (by repeat (first | exact envNil | refine envCons rfl ?_)) (by repeat (first | exact envNil | refine envCons rfl ?_)) (by repeat (first | exact subPnil | refine subPcons 1 rfl ?_))
      · skip
        obtain rfl : k = inner.opts.length := by omega
        rw [List.take_length] at hb ⊢
        have hnc : ¬ clsB inner.opts = true := by rw [hb]; simp
        have e : joinR outer inner = (⟨outer.ty, inner.code, outer.id, outer.tok, insAll (inner.opts ++ outJ outer.opts), inner.pay⟩, 0) := by rw [joinR, if_pos hc, if_pos hm2, if_neg hnc]
        refine AW.exit ?_
        refine AQ.thenX ?_
        refine AQ.loopX ?_
        refine AQ.blockX rfl ?_
        refine AQ.thenN ?_
        refine AW.seq ?_
        refine AW.seq ?_
        refine AW.region ?_
        refine AO.op (O.fieldAddr rfl rfl) rfl rfl rfl ?_
        refine AO.op (O.load rfl rfl (by repeat (first | exact List.Mem.head _ | refine List.Mem.tail _ ?_)) (by rfl)) rfl rfl rfl ?_
        refine AO.op (O.lenR rfl rfl) rfl rfl rfl ?_
        refine AO.op (O.move rfl rfl) rfl rfl rfl ?_
        refine AO.nil ?_
        refine AQ.thenN ?_
        refine AW.block ?_
        refine AW.loopK [(4, _), (6, _), (75, _), (76, _)] (fun nn E H => ∃ (k : Nat) (V : Value), (k ≤ outer.opts.length) ∧ (V.oneCell' = true) ∧ nn = outer.opts.length - k ∧ E = [(7, .val V), (77, .val (.int .i64 (k : Int)))] ∧ H = [.row V 62 2 (inner.opts ++ outJ (outer.opts.take k)).length (optsA (inner.opts ++ outJ (outer.opts.take k))), .blk B4 29 6 [.val (.int .i64 outer.ty), .val (.int .i64 inner.code), .val (.int .i64 outer.id), roB outer.tok, .val (.slice none 0 0), roB inner.pay], .blk B3 29 6 [.val (.int .i64 0), .val (.int .i64 0), .val (.int .i64 0), .val (.slice none 0 0), .val (.slice none 0 0), .val (.slice none 0 0)]]) _ (⟨0, V, by omega, hV, rfl, rfl, by rw [show inner.opts ++ outJ (outer.opts.take 0) = inner.opts by simp [outJ]]⟩) (by repeat (first | exact envNil | refine envCons rfl ?_)) (by repeat (first | exact envNil | refine envCons rfl ?_)) (by repeat (first | exact subPnil | refine subPcons 0 rfl ?_)) ?_
        rintro nn E H ⟨k, V, hk, hV, rfl, rfl, rfl⟩
        dsimp only [List.cons_append, List.nil_append]
        have hl2 := outJ_len (outer.opts.take k)
        rw [List.length_take] at hl2
        have hl3 : (inner.opts ++ outJ (outer.opts.take k)).length = inner.opts.length + (outJ (outer.opts.take k)).length := List.length_append
        refine AW.seq ?_
        refine AW.region ?_
        refine AO.op (O.lss rfl rfl rfl (by rfl)) rfl rfl rfl ?_
        refine AO.nil ?_
        refine AQ.thenN ?_
        refine AW.seq ?_
        refine AW.split rfl (fun h4 => ?_) (fun h4 => ?_) <;> (try simp only [decide_eq_true_eq, decide_eq_false_iff_not, beq_iff_eq, beq_eq_false_iff_ne, bne_iff_ne, bne_eq_false_iff_eq, Bool.not_eq_true', Bool.not_eq_false', Bool.not_eq_true, Bool.not_eq_false, ne_eq, Int.not_lt, Int.not_le, Bool.and_eq_true, Bool.or_eq_true, Bool.or_eq_false_iff, Bool.and_eq_false_imp, strOf_toList, Decidable.not_not] at h4)
        · skip
          have hkk : k < outer.opts.length := by omega
          have hv4 := a4 k hkk
          have hsc := outJ_snoc (outer.opts.take k) (oat outer.opts k)
          rw [← take_snoc Opt.none hkk] at hsc
          refine AW.skip ?_
          refine AQ.thenN ?_
          refine AW.seq ?_
          refine AW.block ?_
          refine AW.seq ?_
          refine AW.region ?_
          refine AO.op (O.idxR rfl rfl rfl ⟨(by omega), (by omega)⟩) rfl rfl rfl ?_
          refine AO.op (O.loadRK rfl rfl (by exact getO (by omega) (by omega)) (by rfl)) rfl rfl rfl ?_
          refine AO.opB (O.alloc rfl (by (dsimp only [List.set, List.append, List.cons_append, List.nil_append, roB_cells, roI_cells, roO_cells, splice, ofConst, AV.cells, List.map, List.map_cons, List.map_nil, List.take, List.drop, Nat.zero_add, Nat.add_zero, Nat.reduceAdd, Nat.reduceMul, Nat.zero_mul, Value.cells, List.toList_toArray, zerosA, List.replicate, List.flatten, List.append_nil]; done)) (by rfl)) rfl rfl rfl ?_
          intro B8
          (refine AO.store (i := 0) rfl rfl rfl rfl rfl rfl (by rfl) (by rfl) (by rfl) (by (dsimp only [List.set, List.append, List.cons_append, List.nil_append, roB_cells, roI_cells, roO_cells, splice, ofConst, AV.cells, List.map, List.map_cons, List.map_nil, List.take, List.drop, Nat.zero_add, Nat.add_zero, Nat.reduceAdd, Nat.reduceMul, Nat.zero_mul, Value.cells, List.toList_toArray, zerosA, List.replicate, List.flatten, List.append_nil]; done)) (by (dsimp only [List.set, List.append, List.cons_append, List.nil_append, roB_cells, roI_cells, roO_cells, splice, ofConst, AV.cells, List.map, List.map_cons, List.map_nil, List.take, List.drop, Nat.zero_add, Nat.add_zero, Nat.reduceAdd, Nat.reduceMul, Nat.zero_mul, Value.cells, List.toList_toArray, zerosA, List.replicate, List.flatten, List.append_nil]; done)) ?_)
          refine AO.nil ?_
          refine AQ.thenN ?_
          refine AW.seq ?_
          refine AW.region ?_
          refine AO.op (O.fieldAddr rfl rfl) rfl rfl rfl ?_
          refine AO.op (O.load rfl rfl (by repeat (exact List.Mem.head _)) (by rfl)) rfl rfl rfl ?_
          refine AO.op (O.call rfl Try.func9 rfl rfl rfl (class_fn _)) rfl rfl rfl ?_
          refine AO.op (O.eql rfl rfl rfl (by rfl)) rfl rfl rfl ?_
          refine AO.op (O.move rfl rfl) rfl rfl rfl ?_
          refine AO.opG rfl rfl rfl (fun hp => O.fieldAddr rfl rfl) ?_
          refine AO.opG rfl rfl rfl (fun hp => OpW.force 86 rfl (by exact hp) (O.load rfl rfl (by repeat (exact List.Mem.head _)) (by rfl))) ?_
          refine AO.opG rfl rfl rfl (fun hp => OpW.force 87 rfl (by exact hp) (O.neq rfl rfl rfl (by rfl))) ?_
          refine AO.op (O.pickAnd rfl rfl rfl rfl (fun h => by exact h)) rfl rfl rfl ?_
          refine AO.nil ?_
          refine AQ.thenN ?_
          refine AW.split rfl (fun h5 => ?_) (fun h5 => ?_) <;> (try simp only [decide_eq_true_eq, decide_eq_false_iff_not, beq_iff_eq, beq_eq_false_iff_ne, bne_iff_ne, bne_eq_false_iff_eq, Bool.not_eq_true', Bool.not_eq_false', Bool.not_eq_true, Bool.not_eq_false, ne_eq, Int.not_lt, Int.not_le, Bool.and_eq_true, Bool.or_eq_true, Bool.or_eq_false_iff, Bool.and_eq_false_imp, strOf_toList, Decidable.not_not] at h5)
          · skip
            rw [if_pos h5, ] at hsc
            refine AW.region ?_
            refine AO.op (O.move rfl rfl) rfl rfl rfl ?_
            (refine AO.op (O.loadK rfl rfl (by repeat (exact List.Mem.head _)) (by (dsimp only [List.set, List.append, List.cons_append, List.nil_append, roB_cells, roI_cells, roO_cells, splice, ofConst, AV.cells, List.map, List.map_cons, List.map_nil, List.take, List.drop, Nat.zero_add, Nat.add_zero, Nat.reduceAdd, Nat.reduceMul, Nat.zero_mul, Value.cells, List.toList_toArray, zerosA, List.replicate, List.flatten, List.append_nil]; done)) (by rfl)) rfl rfl rfl ?_)
            refine AO.op (O.call rfl Try.func44 rfl rfl rfl (copied_fn (oat outer.opts k) hv4)) rfl rfl rfl ?_
            refine AO.opB (O.buildSlice rfl rfl rfl (by rfl) (by rfl) (by rfl) (by rfl)) rfl rfl rfl ?_
            intro B9
            refine AO.g ?_
            (refine G.freezeSl 0 93 rfl rfl ⟨Nat.le_refl _, by unfold maxLen; omega⟩ ?_)
            refine G.unfull 93 rfl ?_
            refine AO.u ?_
            dsimp only [List.eraseIdx]
            (refine AO.append' (i := 1) rfl rfl rfl rfl (by rfl) (by rfl) rfl rfl rfl (by exact SrcA.ro TyD.ax (by rfl) (Nat.le_of_ble_eq_true rfl)) (by rfl) (by (unfold maxLen; omega)) (by omega) (by (dsimp only [List.set, List.append, List.cons_append, List.nil_append, roB_cells, roI_cells, roO_cells, splice, ofConst, AV.cells, List.map, List.map_cons, List.map_nil, List.take, List.drop, Nat.zero_add, Nat.add_zero, Nat.reduceAdd, Nat.reduceMul, Nat.zero_mul, Value.cells, List.toList_toArray, zerosA, List.replicate, List.flatten, List.append_nil]; done)) (fun _ => by (dsimp only [List.set]; done)) ?_)
            intro V10 hV10
            refine AO.op (O.assign rfl rfl) rfl rfl rfl ?_
            refine AO.nil ?_
            refine AQ.blockN ?_
            refine AQ.thenN ?_
            refine AW.region ?_
            refine AO.op (O.add rfl rfl rfl (by exact wI64 (by omega))) rfl rfl rfl ?_
            refine AO.op (O.move rfl rfl) rfl rfl rfl ?_
            refine AO.nil ?_
            refine AQ.loopKN _ _ _ (by omega) (⟨k + 1, _, by omega, ‹_›, rfl, rfl, by rw [hsc, ← List.append_assoc, optsA_snoc, List.length_append (bs := [_])]⟩) (by repeat (first | exact envNil | refine envCons rfl ?_)) (by repeat (first | exact envNil | refine envCons rfl ?_)) (by repeat (first | exact subPnil | refine subPcons 1 rfl ?_))
          · skip
            rw [if_neg (fun hh => hh.2 (h5 hh.1))] at hsc
            refine AW.skip ?_
            refine AQ.blockN ?_
            refine AQ.thenN ?_
            refine AW.region ?_
            refine AO.op (O.add rfl rfl rfl (by exact wI64 (by omega))) rfl rfl rfl ?_
            refine AO.op (O.move rfl rfl) rfl rfl rfl ?_
            refine AO.nil ?_
            refine AQ.loopKN _ _ _ (by omega) (⟨k + 1, V, by omega, hV, rfl, rfl, by rw [hsc]⟩) (by repeat (first | exact envNil | refine envCons rfl ?_)) (by repeat (first | exact envNil | refine envCons rfl ?_)) (by repeat (first | exact subPnil | refine subPcons 1 rfl ?_))
        · skip
          obtain rfl : k = outer.opts.length := by omega
          rw [List.take_length] at hl2 hl3 ⊢
          refine AW.g ?_
          refine G.freezeRow 0 rfl [7] (by repeat (first | exact frNil | refine frCons rfl ?_)) ?_
          refine AW.u ?_
          try dsimp only [List.map, List.eraseIdx, List.cons_append, List.nil_append]
          refine AW.exit ?_
          refine AQ.thenX ?_
          refine AQ.loopX ?_
          refine AQ.blockX rfl ?_
          refine AQ.thenN ?_
          refine AW.seq ?_
          refine AW.seq ?_
          refine AW.region ?_
          refine AO.op (O.move rfl rfl) rfl rfl rfl ?_
          refine AO.op (O.lenR rfl rfl) rfl rfl rfl ?_
          refine AO.op (O.move rfl rfl) rfl rfl rfl ?_
          refine AO.nil ?_
          refine AQ.thenN ?_
          refine AW.block ?_
          obtain ⟨L, hL⟩ : ∃ L, L = inner.opts ++ outJ outer.opts := ⟨_, rfl⟩
          rw [← hL] at hl3 e ⊢
          refine AW.g ?_
          refine G.nilRow 62 2 ?_
          refine AW.u ?_
          refine AW.loopK [(4, _), (6, _), (96, _), (97, _)] (fun nn E H => ∃ (k : Nat) (os : List Opt) (V : Value), (k ≤ L.length) ∧ (os = insAll (L.take k)) ∧ (V.oneCell' = true) ∧ (os = [] → V = .slice none 0 0) ∧ nn = L.length - k ∧ E = [(98, .val (.int .i64 (k : Int)))] ∧ H = [.row V 62 2 (os).length (optsA (os)), .blk B4 29 6 [.val (.int .i64 outer.ty), .val (.int .i64 inner.code), .val (.int .i64 outer.id), roB outer.tok, .val V, roB inner.pay], .blk B3 29 6 [.val (.int .i64 0), .val (.int .i64 0), .val (.int .i64 0), .val (.slice none 0 0), .val (.slice none 0 0), .val (.slice none 0 0)]]) _ (⟨0, [], _, by omega, rfl, rfl, fun _ => rfl, rfl, rfl, rfl⟩) (by repeat (first | exact envNil | refine envCons rfl ?_)) (by repeat (first | exact envNil | refine envCons rfl ?_)) (by repeat (first | exact subPnil | refine subPcons 0 rfl ?_)) ?_
          rintro nn E H ⟨k, os, V, hk, hos, hV, h0, rfl, rfl, rfl⟩
          dsimp only [List.cons_append, List.nil_append]
          have hosl : os.length = k := by rw [hos, insAll_len, List.length_take]; omega
          refine AW.seq ?_
          refine AW.region ?_
          refine AO.op (O.lss rfl rfl rfl (by rfl)) rfl rfl rfl ?_
          refine AO.nil ?_
          refine AQ.thenN ?_
          refine AW.seq ?_
          refine AW.split rfl (fun h6 => ?_) (fun h6 => ?_) <;> (try simp only [decide_eq_true_eq, decide_eq_false_iff_not, beq_iff_eq, beq_eq_false_iff_ne, bne_iff_ne, bne_eq_false_iff_eq, Bool.not_eq_true', Bool.not_eq_false', Bool.not_eq_true, Bool.not_eq_false, ne_eq, Int.not_lt, Int.not_le, Bool.and_eq_true, Bool.or_eq_true, Bool.or_eq_false_iff, Bool.and_eq_false_imp, strOf_toList, Decidable.not_not] at h6)
          · skip
            have hkk : k < L.length := by omega
            have hsc : insAll (L.take (k + 1)) = insO os (oat L k) := by rw [take_snoc Opt.none hkk, insAll_snoc, hos]
            rcases Nat.eq_zero_or_pos os.length with hz | hz
            · skip
              obtain rfl : os = [] := List.eq_nil_of_length_eq_zero hz
              obtain rfl := h0 rfl
              refine AW.skip ?_
              refine AQ.thenN ?_
              refine AW.seq ?_
              refine AW.block ?_
              refine AW.seq ?_
              refine AW.region ?_
              refine AO.op (O.idxR rfl rfl rfl ⟨(by omega), (by omega)⟩) rfl rfl rfl ?_
              refine AO.op (O.loadRK rfl rfl (by exact getO (by omega) (by omega)) (by rfl)) rfl rfl rfl ?_
              refine AO.opB (O.alloc rfl (by (dsimp only [List.set, List.append, List.cons_append, List.nil_append, roB_cells, roI_cells, roO_cells, splice, ofConst, AV.cells, List.map, List.map_cons, List.map_nil, List.take, List.drop, Nat.zero_add, Nat.add_zero, Nat.reduceAdd, Nat.reduceMul, Nat.zero_mul, Value.cells, List.toList_toArray, zerosA, List.replicate, List.flatten, List.append_nil]; done)) (by rfl)) rfl rfl rfl ?_
              intro B11
              (refine AO.store (i := 0) rfl rfl rfl rfl rfl rfl (by rfl) (by rfl) (by rfl) (by (dsimp only [List.set, List.append, List.cons_append, List.nil_append, roB_cells, roI_cells, roO_cells, splice, ofConst, AV.cells, List.map, List.map_cons, List.map_nil, List.take, List.drop, Nat.zero_add, Nat.add_zero, Nat.reduceAdd, Nat.reduceMul, Nat.zero_mul, Value.cells, List.toList_toArray, zerosA, List.replicate, List.flatten, List.append_nil]; done)) (by (dsimp only [List.set, List.append, List.cons_append, List.nil_append, roB_cells, roI_cells, roO_cells, splice, ofConst, AV.cells, List.map, List.map_cons, List.map_nil, List.take, List.drop, Nat.zero_add, Nat.add_zero, Nat.reduceAdd, Nat.reduceMul, Nat.zero_mul, Value.cells, List.toList_toArray, zerosA, List.replicate, List.flatten, List.append_nil]; done)) ?_)
              refine AO.nil ?_
              refine AQ.thenN ?_
              refine AW.seq ?_
              refine AW.region ?_
              refine AO.op (O.fieldAddr rfl rfl) rfl rfl rfl ?_
              refine AO.op (O.load rfl rfl (by repeat (first | exact List.Mem.head _ | refine List.Mem.tail _ ?_)) (by rfl)) rfl rfl rfl ?_
              refine AO.op (O.lenV rfl rfl) rfl rfl rfl ?_
              refine AO.op (O.assign rfl rfl) rfl rfl rfl ?_
              refine AO.nil ?_
              refine AQ.thenN ?_
              refine AW.seq ?_
              refine AW.block ?_
              refine AW.loopK [(4, _), (6, _), (13, _), (96, _), (97, _), (98, _)] (fun nn E H => ∃ (i : Nat), (i = 0) ∧ i = nn ∧ E = [(14, .val (.int .i64 (i : Int)))] ∧ H = [.blk B11 62 2 [.val (.int .i64 (oat L k).num), roB (oat L k).val], .row (.slice none 0 0) 62 2 0 [], .blk B4 29 6 [.val (.int .i64 outer.ty), .val (.int .i64 inner.code), .val (.int .i64 outer.id), roB outer.tok, .val (.slice none 0 0), roB inner.pay], .blk B3 29 6 [.val (.int .i64 0), .val (.int .i64 0), .val (.int .i64 0), .val (.slice none 0 0), .val (.slice none 0 0), .val (.slice none 0 0)]]) _ (⟨0, rfl, rfl, rfl, rfl⟩) (by repeat (first | exact envNil | refine envCons rfl ?_)) (by repeat (first | exact envNil | refine envCons rfl ?_)) (by repeat (first | exact subPnil | refine subPcons 0 rfl ?_)) ?_
              rintro nn E H ⟨i, hi, rfl, rfl, rfl⟩
              dsimp only [List.cons_append, List.nil_append]
              subst hi
              refine AW.seq ?_
              refine AW.seq ?_
              refine AW.regionD 14 (by kernel_rfl) (by kernel_rfl) ?_
              simp only [List.take_succ_cons, List.take_zero, List.drop_succ_cons, List.drop_zero]
              refine FA.op (O.move rfl rfl) rfl rfl rfl rfl ?_
              refine FA.op (O.gtr rfl rfl rfl (by exact bFalse (by omega))) rfl rfl rfl rfl ?_
              refine FA.op (O.move rfl rfl) rfl rfl rfl rfl ?_
              refine FA.opG rfl rfl rfl rfl (fun hp => O.fieldAddr rfl rfl) ?_
              refine FA.opG rfl rfl rfl rfl (fun hp => OpW.force 108 rfl (by exact hp) (O.load rfl rfl (by repeat (first | exact List.Mem.head _ | refine List.Mem.tail _ ?_)) (by rfl))) ?_
              refine FA.opG rfl rfl rfl rfl (fun hp => O.move rfl rfl) ?_
              refine FA.opG rfl rfl rfl rfl (fun hp => OpW.force 110 rfl (by exact hp) (O.sub rfl rfl rfl (by exact wI64 (by omega)))) ?_
              refine FA.no rfl rfl rfl rfl ?_
              refine FA.no rfl rfl rfl rfl ?_
              refine FA.no rfl rfl rfl rfl ?_
              refine FA.opG rfl rfl rfl rfl (fun hp => O.fieldAddr rfl rfl) ?_
              refine FA.opG rfl rfl rfl rfl (fun hp => OpW.force 115 rfl (by exact hp) (O.load rfl rfl (by repeat (exact List.Mem.head _)) (by rfl))) ?_
              refine FA.no rfl rfl rfl rfl ?_
              refine FA.op (O.pickF rfl rfl rfl) rfl rfl rfl rfl ?_
              refine FA.nil ?_
              simp only [chosen, List.nil_append, List.cons_append, List.append_nil]
              refine AO.nil ?_
              refine AQ.thenN ?_
              refine AW.split rfl (fun hq => ?_) (fun hq => ?_)
              · skip
                simp at hq
              · skip
                refine AW.exit ?_
                refine AQ.thenX ?_
                refine AQ.loopX ?_
                refine AQ.blockX rfl ?_
                refine AQ.thenN ?_
                refine AW.regionS [[(0, false), (1, false), (2, false), (3, false), (4, false), (6, false), (7, false), (8, false), (9, false), (5, true), (10, true)], [(11, true)], [(12, false)], [(13, true)]] (by kernel_rfl) (by kernel_rfl) ?_
                refine AMS.go (by exact (splitAt' 1 rfl splitNil)) ?_
                try dsimp only [List.eraseIdx]
                refine AM.op rfl (O.fieldAddr rfl rfl) rfl rfl rfl ?_
                refine AM.op rfl (O.load rfl rfl (by repeat (first | exact List.Mem.head _ | refine List.Mem.tail _ ?_)) (by rfl)) rfl rfl rfl ?_
                refine AM.op rfl (O.move rfl rfl) rfl rfl rfl ?_
                refine AM.op rfl (O.sliceN rfl rfl rfl rfl ⟨by omega, by omega, by omega⟩) rfl rfl rfl ?_
                (refine AM.op rfl (O.loadK rfl rfl (by repeat (exact List.Mem.head _)) (by (dsimp only [List.set, List.append, List.cons_append, List.nil_append, roB_cells, roI_cells, roO_cells, splice, ofConst, AV.cells, List.map, List.map_cons, List.map_nil, List.take, List.drop, Nat.zero_add, Nat.add_zero, Nat.reduceAdd, Nat.reduceMul, Nat.zero_mul, Value.cells, List.toList_toArray, zerosA, List.replicate, List.flatten, List.append_nil]; done)) (by rfl)) rfl rfl rfl ?_)
                refine AM.op rfl (O.fieldAddr rfl rfl) rfl rfl rfl ?_
                refine AM.op rfl (O.load rfl rfl (by repeat (first | exact List.Mem.head _ | refine List.Mem.tail _ ?_)) (by rfl)) rfl rfl rfl ?_
                refine AM.op rfl (O.move rfl rfl) rfl rfl rfl ?_
                refine AM.op rfl (O.sliceN rfl rfl rfl rfl ⟨by omega, by omega, by omega⟩) rfl rfl rfl ?_
                refine AM.main _ rfl (fun w0 R0 => ?_)
                refine AO.opB (O.buildSlice rfl rfl rfl (by rfl) (by rfl) (by rfl) (by rfl)) rfl rfl rfl ?_
                intro B12
                refine AO.g ?_
                refine G.closeRow (b := B12) (n := 1) (cap := 1) 0 rfl rfl rfl (Nat.le_refl _) (by (unfold maxLen; omega)) ?_
                refine AO.u ?_
                dsimp only [List.set]
                refine AM.ok ?_
                dsimp only [putE]
                refine AM.main _ rfl (fun w0 R0 => ?_)
                (refine AO.append' (i := 0) rfl rfl rfl rfl (by rfl) (by rfl) rfl rfl rfl (by exact SrcA.nil TyD.ax) (by rfl) (by (unfold maxLen; omega)) (by omega) (by (dsimp only [List.set, List.append, List.cons_append, List.nil_append, roB_cells, roI_cells, roO_cells, splice, ofConst, AV.cells, List.map, List.map_cons, List.map_nil, List.take, List.drop, Nat.zero_add, Nat.add_zero, Nat.reduceAdd, Nat.reduceMul, Nat.zero_mul, Value.cells, List.toList_toArray, zerosA, List.replicate, List.flatten, List.append_nil]; done)) (fun _ => by (dsimp only [List.set]; done)) ?_)
                intro V13 hV13
                refine AM.ok ?_
                dsimp only [putE]
                refine AM.nil ?_
                try dsimp only [List.cons_append, List.nil_append]
                refine AMS.go (by exact (splitAt' 0 rfl (splitAt' 0 rfl splitNil))) ?_
                try dsimp only [List.eraseIdx]
                refine AM.main _ rfl (fun w0 R0 => ?_)
                (refine AO.append' (i := 1) rfl rfl rfl rfl (by rfl) (by rfl) rfl rfl rfl (by exact SrcA.row TyD.ax (by repeat (exact List.Mem.head _)) (by rfl)) (by rfl) (by (unfold maxLen; omega)) (by omega) (by (dsimp only [List.set, List.append, List.cons_append, List.nil_append, roB_cells, roI_cells, roO_cells, splice, ofConst, AV.cells, List.map, List.map_cons, List.map_nil, List.take, List.drop, Nat.zero_add, Nat.add_zero, Nat.reduceAdd, Nat.reduceMul, Nat.zero_mul, Value.cells, List.toList_toArray, zerosA, List.replicate, List.flatten, List.append_nil]; done)) (fun _ => by (dsimp only [List.set]; done)) ?_)
                intro V14 hV14
                refine AM.ok ?_
                dsimp only [putE]
                refine AM.nil ?_
                try dsimp only [List.cons_append, List.nil_append]
                refine AMS.go (by exact splitNil) ?_
                try dsimp only [List.eraseIdx]
                refine AM.op rfl (O.fieldAddr rfl rfl) rfl rfl rfl ?_
                refine AM.nil ?_
                try dsimp only [List.cons_append, List.nil_append]
                refine AMS.go (by exact (by exact splitBlk 133 3 rfl rfl splitNil)) ?_
                try dsimp only [List.eraseIdx]
                refine AM.main _ rfl (fun w0 R0 => ?_)
                (refine AO.store (i := 0) rfl rfl rfl rfl rfl rfl (by (simp [AV.cells, AV.one, *]; done)) (by rfl) (by rfl) (by (dsimp only [List.set, List.append, List.cons_append, List.nil_append, roB_cells, roI_cells, roO_cells, splice, ofConst, AV.cells, List.map, List.map_cons, List.map_nil, List.take, List.drop, Nat.zero_add, Nat.add_zero, Nat.reduceAdd, Nat.reduceMul, Nat.zero_mul, Value.cells, List.toList_toArray, zerosA, List.replicate, List.flatten, List.append_nil]; done)) (by (dsimp only [List.set, List.append, List.cons_append, List.nil_append, roB_cells, roI_cells, roO_cells, splice, ofConst, AV.cells, List.map, List.map_cons, List.map_nil, List.take, List.drop, Nat.zero_add, Nat.add_zero, Nat.reduceAdd, Nat.reduceMul, Nat.zero_mul, Value.cells, List.toList_toArray, zerosA, List.replicate, List.flatten, List.append_nil]; done)) ?_)
                refine AM.okN ?_
                dsimp only [putE]
                refine AM.nil ?_
                try dsimp only [List.cons_append, List.nil_append]
                refine AMS.nil ?_
                refine AQ.blockN ?_
                refine AQ.thenN ?_
                refine AW.region ?_
                refine AO.op (O.add rfl rfl rfl (by exact wI64 (by omega))) rfl rfl rfl ?_
                refine AO.op (O.move rfl rfl) rfl rfl rfl ?_
                refine AO.nil ?_
                refine AQ.g ?_
                refine G.coeRow 2 (insO [] (oat L k)).length (optsA (insO [] (oat L k))) rfl rfl (CoeL.of_eq rfl) ?_
                refine AQ.u ?_
                refine AQ.loopKN _ _ _ (by omega) (⟨k + 1, insO [] (oat L k), _, by omega, hsc.symm, ‹_›, fun hh => absurd (congrArg List.length hh) (by rw [insO_len]; simp), rfl, rfl, rfl⟩) (by repeat (first | exact envNil | refine envCons rfl ?_)) (by repeat (first | exact envNil | refine envCons rfl ?_)) (by repeat (first | exact subPnil | refine subPcons 0 rfl ?_ | refine subPcons 2 rfl ?_))
            · skip
              refine AW.g ?_
              refine G.openRow 0 rfl hz (fun b' cap hc1 hc2 hxs hVe => ?_)
              refine AW.u ?_
              subst hVe
              have hc3 := hc2
              unfold maxLen at hc3
              refine AW.skip ?_
              refine AQ.thenN ?_
              refine AW.seq ?_
              refine AW.block ?_
              refine AW.seq ?_
              refine AW.region ?_
              refine AO.op (O.idxR rfl rfl rfl ⟨(by omega), (by omega)⟩) rfl rfl rfl ?_
              refine AO.op (O.loadRK rfl rfl (by exact getO (by omega) (by omega)) (by rfl)) rfl rfl rfl ?_
              refine AO.opB (O.alloc rfl (by (dsimp only [List.set, List.append, List.cons_append, List.nil_append, roB_cells, roI_cells, roO_cells, splice, ofConst, AV.cells, List.map, List.map_cons, List.map_nil, List.take, List.drop, Nat.zero_add, Nat.add_zero, Nat.reduceAdd, Nat.reduceMul, Nat.zero_mul, Value.cells, List.toList_toArray, zerosA, List.replicate, List.flatten, List.append_nil]; done)) (by rfl)) rfl rfl rfl ?_
              intro B11
              (refine AO.store (i := 0) rfl rfl rfl rfl rfl rfl (by rfl) (by rfl) (by rfl) (by (dsimp only [List.set, List.append, List.cons_append, List.nil_append, roB_cells, roI_cells, roO_cells, splice, ofConst, AV.cells, List.map, List.map_cons, List.map_nil, List.take, List.drop, Nat.zero_add, Nat.add_zero, Nat.reduceAdd, Nat.reduceMul, Nat.zero_mul, Value.cells, List.toList_toArray, zerosA, List.replicate, List.flatten, List.append_nil]; done)) (by (dsimp only [List.set, List.append, List.cons_append, List.nil_append, roB_cells, roI_cells, roO_cells, splice, ofConst, AV.cells, List.map, List.map_cons, List.map_nil, List.take, List.drop, Nat.zero_add, Nat.add_zero, Nat.reduceAdd, Nat.reduceMul, Nat.zero_mul, Value.cells, List.toList_toArray, zerosA, List.replicate, List.flatten, List.append_nil]; done)) ?_)
              refine AO.nil ?_
              refine AQ.thenN ?_
              refine AW.seq ?_
              refine AW.region ?_
              refine AO.op (O.fieldAddr rfl rfl) rfl rfl rfl ?_
              refine AO.op (O.load rfl rfl (by repeat (first | exact List.Mem.head _ | refine List.Mem.tail _ ?_)) (by rfl)) rfl rfl rfl ?_
              refine AO.op (O.lenV rfl rfl) rfl rfl rfl ?_
              refine AO.op (O.assign rfl rfl) rfl rfl rfl ?_
              refine AO.nil ?_
              refine AQ.thenN ?_
              refine AW.seq ?_
              refine AW.block ?_
              refine AW.loopK [(4, _), (6, _), (13, _), (96, _), (97, _), (98, _)] (fun nn E H => ∃ (i : Nat), (i ≤ os.length) ∧ (posO os (oat L k).num i = posO os (oat L k).num os.length) ∧ i = nn ∧ E = [(14, .val (.int .i64 (i : Int)))] ∧ H = [.blk B11 62 2 [.val (.int .i64 (oat L k).num), roB (oat L k).val], .blk b' 62 (cap * 2) (optsA os), .blk B4 29 6 [.val (.int .i64 outer.ty), .val (.int .i64 inner.code), .val (.int .i64 outer.id), roB outer.tok, .val (.slice (some ⟨b', 0, none⟩) os.length cap), roB inner.pay], .blk B3 29 6 [.val (.int .i64 0), .val (.int .i64 0), .val (.int .i64 0), .val (.slice none 0 0), .val (.slice none 0 0), .val (.slice none 0 0)]]) _ (⟨os.length, Nat.le_refl _, rfl, rfl, rfl, rfl⟩) (by repeat (first | exact envNil | refine envCons rfl ?_)) (by repeat (first | exact envNil | refine envCons rfl ?_)) (by repeat (first | exact subPnil | refine subPcons 0 rfl ?_)) ?_
              rintro nn E H ⟨i, hi, hp, rfl, rfl, rfl⟩
              dsimp only [List.cons_append, List.nil_append]
              rcases i with _ | i
              · skip
                refine AW.seq ?_
                refine AW.seq ?_
                refine AW.regionD 14 (by kernel_rfl) (by kernel_rfl) ?_
                simp only [List.take_succ_cons, List.take_zero, List.drop_succ_cons, List.drop_zero]
                refine FA.op (O.move rfl rfl) rfl rfl rfl rfl ?_
                refine FA.op (O.gtr rfl rfl rfl (by exact bFalse (by omega))) rfl rfl rfl rfl ?_
                refine FA.op (O.move rfl rfl) rfl rfl rfl rfl ?_
                refine FA.opG rfl rfl rfl rfl (fun hp => O.fieldAddr rfl rfl) ?_
                refine FA.opG rfl rfl rfl rfl (fun hp => OpW.force 108 rfl (by exact hp) (O.load rfl rfl (by repeat (first | exact List.Mem.head _ | refine List.Mem.tail _ ?_)) (by rfl))) ?_
                refine FA.opG rfl rfl rfl rfl (fun hp => O.move rfl rfl) ?_
                refine FA.opG rfl rfl rfl rfl (fun hp => OpW.force 110 rfl (by exact hp) (O.sub rfl rfl rfl (by exact wI64 (by omega)))) ?_
                refine FA.no rfl rfl rfl rfl ?_
                refine FA.no rfl rfl rfl rfl ?_
                refine FA.no rfl rfl rfl rfl ?_
                refine FA.opG rfl rfl rfl rfl (fun hp => O.fieldAddr rfl rfl) ?_
                refine FA.opG rfl rfl rfl rfl (fun hp => OpW.force 115 rfl (by exact hp) (O.load rfl rfl (by repeat (exact List.Mem.head _)) (by rfl))) ?_
                refine FA.no rfl rfl rfl rfl ?_
                refine FA.op (O.pickF rfl rfl rfl) rfl rfl rfl rfl ?_
                refine FA.nil ?_
                simp only [chosen, List.nil_append, List.cons_append, List.append_nil]
                refine AO.nil ?_
                refine AQ.thenN ?_
                refine AW.split rfl (fun hq => ?_) (fun hq => ?_)
                · skip
                  simp at hq
                · skip
                  obtain ⟨p, hp0⟩ : ∃ p : Nat, p = 0 := ⟨_, rfl⟩
                  refine AW.g ?_
                  refine G.re 14 (.val (.int .i64 (p : Int))) (by rw [hp0]; rfl) ?_
                  refine AW.u ?_
                  have hpp : p = posO os (oat L k).num os.length := by rw [hp0, ← hp]; rfl
                  have hpl : p < os.length := by omega
                  clear hp0 hp
                  refine AW.exit ?_
                  refine AQ.thenX ?_
                  refine AQ.loopX ?_
                  refine AQ.blockX rfl ?_
                  refine AQ.thenN ?_
                  refine AW.regionS [[(0, false), (1, false), (2, false), (3, false), (4, false), (6, false), (7, false), (8, false), (9, false), (5, true), (10, true)], [(11, true)], [(12, false)], [(13, true)]] (by kernel_rfl) (by kernel_rfl) ?_
                  refine AMS.go (by exact (splitAt' 1 rfl splitNil)) ?_
                  try dsimp only [List.eraseIdx]
                  refine AM.op rfl (O.fieldAddr rfl rfl) rfl rfl rfl ?_
                  refine AM.op rfl (O.load rfl rfl (by repeat (first | exact List.Mem.head _ | refine List.Mem.tail _ ?_)) (by rfl)) rfl rfl rfl ?_
                  refine AM.op rfl (O.move rfl rfl) rfl rfl rfl ?_
                  refine AM.op rfl (O.sliceV rfl rfl rfl rfl ⟨by omega, by omega, by omega⟩ (by omega)) rfl rfl rfl ?_
                  (refine AM.op rfl (O.loadK rfl rfl (by repeat (exact List.Mem.head _)) (by (dsimp only [List.set, List.append, List.cons_append, List.nil_append, roB_cells, roI_cells, roO_cells, splice, ofConst, AV.cells, List.map, List.map_cons, List.map_nil, List.take, List.drop, Nat.zero_add, Nat.add_zero, Nat.reduceAdd, Nat.reduceMul, Nat.zero_mul, Value.cells, List.toList_toArray, zerosA, List.replicate, List.flatten, List.append_nil]; done)) (by rfl)) rfl rfl rfl ?_)
                  refine AM.op rfl (O.fieldAddr rfl rfl) rfl rfl rfl ?_
                  refine AM.op rfl (O.load rfl rfl (by repeat (first | exact List.Mem.head _ | refine List.Mem.tail _ ?_)) (by rfl)) rfl rfl rfl ?_
                  refine AM.op rfl (O.move rfl rfl) rfl rfl rfl ?_
                  refine AM.op rfl (O.sliceV rfl rfl rfl rfl ⟨by omega, by omega, by omega⟩ (by omega)) rfl rfl rfl ?_
                  refine AM.main _ rfl (fun w0 R0 => ?_)
                  refine AO.opB (O.buildSlice rfl rfl rfl (by rfl) (by rfl) (by rfl) (by rfl)) rfl rfl rfl ?_
                  intro B12
                  refine AO.g ?_
                  refine G.closeRow (b := B12) (n := 1) (cap := 1) 0 rfl rfl rfl (Nat.le_refl _) (by (unfold maxLen; omega)) ?_
                  refine AO.u ?_
                  dsimp only [List.set]
                  refine AM.ok ?_
                  dsimp only [putE]
                  refine AM.main _ rfl (fun w0 R0 => ?_)
                  (refine AO.append' (i := 0) rfl rfl rfl rfl (by rfl) (by rfl) rfl rfl rfl (by exact SrcA.blk TyD.ax (by repeat (first | exact List.Mem.head _ | refine List.Mem.tail _ ?_)) (by (dsimp only [List.set, List.append, List.cons_append, List.nil_append, roB_cells, roI_cells, roO_cells, splice, ofConst, AV.cells, List.map, List.map_cons, List.map_nil, List.take, List.drop, Nat.zero_add, Nat.add_zero, Nat.reduceAdd, Nat.reduceMul, Nat.zero_mul, Value.cells, List.toList_toArray, zerosA, List.replicate, List.flatten, List.append_nil]; done)) (by (simp; omega))) (by exact one_part (optsA_one _) _ _) (by (unfold maxLen; omega)) (by omega) (by (dsimp only [List.set, List.append, List.cons_append, List.nil_append, roB_cells, roI_cells, roO_cells, splice, ofConst, AV.cells, List.map, List.map_cons, List.map_nil, List.take, List.drop, Nat.zero_add, Nat.add_zero, Nat.reduceAdd, Nat.reduceMul, Nat.zero_mul, Value.cells, List.toList_toArray, zerosA, List.replicate, List.flatten, List.append_nil]; done)) (fun _ => by (dsimp only [List.set]; done)) ?_)
                  intro V13 hV13
                  refine AM.ok ?_
                  dsimp only [putE]
                  refine AM.nil ?_
                  try dsimp only [List.cons_append, List.nil_append]
                  refine AMS.go (by exact (splitAt' 0 rfl (splitAt' 0 rfl splitNil))) ?_
                  try dsimp only [List.eraseIdx]
                  refine AM.main _ rfl (fun w0 R0 => ?_)
                  (refine AO.appendCut (i := 1) rfl rfl rfl rfl (by rfl) (by rfl) rfl rfl rfl (by omega) (by exact SrcA.row TyD.ax (by repeat (exact List.Mem.head _)) (by (simp; omega))) (by exact one_part (optsA_one _) _ _) (by (unfold maxLen; omega)) (by omega) ⟨by omega, by assumption⟩ (by (dsimp only [List.set, List.append, List.cons_append, List.nil_append, roB_cells, roI_cells, roO_cells, splice, ofConst, AV.cells, List.map, List.map_cons, List.map_nil, List.take, List.drop, Nat.zero_add, Nat.add_zero, Nat.reduceAdd, Nat.reduceMul, Nat.zero_mul, Value.cells, List.toList_toArray, zerosA, List.replicate, List.flatten, List.append_nil]; done)) (fun _ => by (dsimp only [List.set]; done)) ?_)
                  intro V14 hV14
                  refine AM.ok ?_
                  dsimp only [putE]
                  refine AM.nil ?_
                  try dsimp only [List.cons_append, List.nil_append]
                  refine AMS.go (by exact splitNil) ?_
                  try dsimp only [List.eraseIdx]
                  refine AM.op rfl (O.fieldAddr rfl rfl) rfl rfl rfl ?_
                  refine AM.nil ?_
                  try dsimp only [List.cons_append, List.nil_append]
                  refine AMS.go (by exact (by exact splitBlk 133 3 rfl rfl splitNil)) ?_
                  try dsimp only [List.eraseIdx]
                  refine AM.main _ rfl (fun w0 R0 => ?_)
                  (refine AO.store (i := 0) rfl rfl rfl rfl rfl rfl (by (simp [AV.cells, AV.one, *]; done)) (by rfl) (by rfl) (by (dsimp only [List.set, List.append, List.cons_append, List.nil_append, roB_cells, roI_cells, roO_cells, splice, ofConst, AV.cells, List.map, List.map_cons, List.map_nil, List.take, List.drop, Nat.zero_add, Nat.add_zero, Nat.reduceAdd, Nat.reduceMul, Nat.zero_mul, Value.cells, List.toList_toArray, zerosA, List.replicate, List.flatten, List.append_nil]; done)) (by (dsimp only [List.set, List.append, List.cons_append, List.nil_append, roB_cells, roI_cells, roO_cells, splice, ofConst, AV.cells, List.map, List.map_cons, List.map_nil, List.take, List.drop, Nat.zero_add, Nat.add_zero, Nat.reduceAdd, Nat.reduceMul, Nat.zero_mul, Value.cells, List.toList_toArray, zerosA, List.replicate, List.flatten, List.append_nil]; done)) ?_)
                  refine AM.okN ?_
                  dsimp only [putE]
                  refine AM.nil ?_
                  try dsimp only [List.cons_append, List.nil_append]
                  refine AMS.nil ?_
                  refine AQ.blockN ?_
                  refine AQ.thenN ?_
                  refine AW.region ?_
                  refine AO.op (O.add rfl rfl rfl (by exact wI64 (by omega))) rfl rfl rfl ?_
                  refine AO.op (O.move rfl rfl) rfl rfl rfl ?_
                  refine AO.nil ?_
                  refine AQ.g ?_
                  refine G.coeRow 2 (insO os (oat L k)).length (optsA (insO os (oat L k))) rfl (by rw [insO_len]; omega) (CoeL.of_eq (ins_cells hpp (by omega) (by omega) (by omega))) ?_
                  refine AQ.u ?_
                  refine AQ.loopKN _ _ _ (by omega) (⟨k + 1, insO os (oat L k), _, by omega, hsc.symm, ‹_›, fun hh => absurd (congrArg List.length hh) (by rw [insO_len]; simp), rfl, rfl, rfl⟩) (by repeat (first | exact envNil | refine envCons rfl ?_)) (by repeat (first | exact envNil | refine envCons rfl ?_)) (by repeat (first | exact subPnil | refine subPcons 0 rfl ?_ | refine subPcons 2 rfl ?_))
              · skip
                refine AW.seq ?_
                refine AW.seq ?_
                refine AW.regionD 14 (by kernel_rfl) (by kernel_rfl) ?_
                simp only [List.take_succ_cons, List.take_zero, List.drop_succ_cons, List.drop_zero]
                refine FA.op (O.move rfl rfl) rfl rfl rfl rfl ?_
                refine FA.op (O.gtr rfl rfl rfl (by exact bTrue (by omega))) rfl rfl rfl rfl ?_
                refine FA.op (O.move rfl rfl) rfl rfl rfl rfl ?_
                refine FA.opG rfl rfl rfl rfl (fun hp => O.fieldAddr rfl rfl) ?_
                refine FA.opG rfl rfl rfl rfl (fun hp => OpW.force 108 rfl (by exact hp) (O.load rfl rfl (by repeat (first | exact List.Mem.head _ | refine List.Mem.tail _ ?_)) (by rfl))) ?_
                refine FA.opG rfl rfl rfl rfl (fun hp => O.move rfl rfl) ?_
                refine FA.opG rfl rfl rfl rfl (fun hp => OpW.force 110 rfl (by exact hp) (O.sub rfl rfl rfl (by exact wI64 (by omega)))) ?_
                refine FA.opG rfl rfl rfl rfl (fun hp => OpW.force 109 rfl (by exact hp) (OpW.force 111 rfl (by exact hp) (O.idxV rfl rfl rfl ⟨(by omega), (by omega)⟩))) ?_
                refine FA.opG rfl rfl rfl rfl (fun hp => OpW.force 112 rfl (by exact hp) (O.fieldAddr rfl rfl)) ?_
                refine FA.opG rfl rfl rfl rfl (fun hp => OpW.force 113 rfl (by exact hp) (O.load rfl rfl (by repeat (first | exact List.Mem.head _ | refine List.Mem.tail _ ?_)) (by exact getOn (k := i) (by omega) (by omega)))) ?_
                refine FA.opG rfl rfl rfl rfl (fun hp => O.fieldAddr rfl rfl) ?_
                refine FA.opG rfl rfl rfl rfl (fun hp => OpW.force 115 rfl (by exact hp) (O.load rfl rfl (by repeat (exact List.Mem.head _)) (by rfl))) ?_
                refine FA.opG rfl rfl rfl rfl (fun hp => OpW.force 114 rfl (by exact hp) (OpW.force 116 rfl (by exact hp) (O.gtr rfl rfl rfl (by rfl)))) ?_
                refine FA.op (O.pickAnd rfl rfl rfl rfl (fun h => by exact h)) rfl rfl rfl rfl ?_
                refine FA.nil ?_
                simp only [chosen, List.nil_append, List.cons_append, List.append_nil]
                refine AO.nil ?_
                refine AQ.thenN ?_
                refine AW.split rfl (fun hq => ?_) (fun hq => ?_) <;> (try simp only [decide_eq_true_eq, decide_eq_false_iff_not, beq_iff_eq, beq_eq_false_iff_ne, bne_iff_ne, bne_eq_false_iff_eq, Bool.not_eq_true', Bool.not_eq_false', Bool.not_eq_true, Bool.not_eq_false, ne_eq, Int.not_lt, Int.not_le, Bool.and_eq_true, Bool.or_eq_true, Bool.or_eq_false_iff, Bool.and_eq_false_imp, strOf_toList, Decidable.not_not] at hq)
                · skip
                  refine AW.skip ?_
                  refine AQ.thenN ?_
                  refine AW.block ?_
                  refine AW.region ?_
                  refine AO.op (O.move rfl rfl) rfl rfl rfl ?_
                  refine AO.op (O.sub rfl rfl rfl (by exact wI64 (by omega))) rfl rfl rfl ?_
                  refine AO.op (O.assign rfl rfl) rfl rfl rfl ?_
                  refine AO.nil ?_
                  refine AQ.blockN ?_
                  rw [show ((i + 1 : Nat) : Int) - 1 = (i : Int) by omega]
                  refine AQ.loopKN _ _ _ (by omega) (⟨i, by omega, by rw [← hp, posO, if_pos hq.2], rfl, rfl, rfl⟩) (by repeat (first | exact envNil | refine envCons rfl ?_)) (by repeat (first | exact envNil | refine envCons rfl ?_)) (by repeat (first | exact subPnil | refine subPcons 0 rfl ?_))
                · skip
                  have hpp : i + 1 = posO os (oat L k).num os.length := by rw [← hp, posO, if_neg (by have := hq trivial; omega)]
                  clear hp
                  rcases Nat.lt_or_ge (i + 1) os.length with hlt | hge
                  · skip
                    refine AW.exit ?_
                    refine AQ.thenX ?_
                    refine AQ.loopX ?_
                    refine AQ.blockX rfl ?_
                    refine AQ.thenN ?_
                    refine AW.regionS [[(0, false), (1, false), (2, false), (3, false), (4, false), (6, false), (7, false), (8, false), (9, false), (5, true), (10, true)], [(11, true)], [(12, false)], [(13, true)]] (by kernel_rfl) (by kernel_rfl) ?_
                    refine AMS.go (by exact (splitAt' 1 rfl splitNil)) ?_
                    try dsimp only [List.eraseIdx]
                    refine AM.op rfl (O.fieldAddr rfl rfl) rfl rfl rfl ?_
                    refine AM.op rfl (O.load rfl rfl (by repeat (first | exact List.Mem.head _ | refine List.Mem.tail _ ?_)) (by rfl)) rfl rfl rfl ?_
                    refine AM.op rfl (O.move rfl rfl) rfl rfl rfl ?_
                    refine AM.op rfl (O.sliceV rfl rfl rfl rfl ⟨by omega, by omega, by omega⟩ (by omega)) rfl rfl rfl ?_
                    (refine AM.op rfl (O.loadK rfl rfl (by repeat (exact List.Mem.head _)) (by (dsimp only [List.set, List.append, List.cons_append, List.nil_append, roB_cells, roI_cells, roO_cells, splice, ofConst, AV.cells, List.map, List.map_cons, List.map_nil, List.take, List.drop, Nat.zero_add, Nat.add_zero, Nat.reduceAdd, Nat.reduceMul, Nat.zero_mul, Value.cells, List.toList_toArray, zerosA, List.replicate, List.flatten, List.append_nil]; done)) (by rfl)) rfl rfl rfl ?_)
                    refine AM.op rfl (O.fieldAddr rfl rfl) rfl rfl rfl ?_
                    refine AM.op rfl (O.load rfl rfl (by repeat (first | exact List.Mem.head _ | refine List.Mem.tail _ ?_)) (by rfl)) rfl rfl rfl ?_
                    refine AM.op rfl (O.move rfl rfl) rfl rfl rfl ?_
                    refine AM.op rfl (O.sliceV rfl rfl rfl rfl ⟨by omega, by omega, by omega⟩ (by omega)) rfl rfl rfl ?_
                    refine AM.main _ rfl (fun w0 R0 => ?_)
                    refine AO.opB (O.buildSlice rfl rfl rfl (by rfl) (by rfl) (by rfl) (by rfl)) rfl rfl rfl ?_
                    intro B12
                    refine AO.g ?_
                    refine G.closeRow (b := B12) (n := 1) (cap := 1) 0 rfl rfl rfl (Nat.le_refl _) (by (unfold maxLen; omega)) ?_
                    refine AO.u ?_
                    dsimp only [List.set]
                    refine AM.ok ?_
                    dsimp only [putE]
                    refine AM.main _ rfl (fun w0 R0 => ?_)
                    (refine AO.append' (i := 0) rfl rfl rfl rfl (by rfl) (by rfl) rfl rfl rfl (by exact SrcA.blk TyD.ax (by repeat (first | exact List.Mem.head _ | refine List.Mem.tail _ ?_)) (by (dsimp only [List.set, List.append, List.cons_append, List.nil_append, roB_cells, roI_cells, roO_cells, splice, ofConst, AV.cells, List.map, List.map_cons, List.map_nil, List.take, List.drop, Nat.zero_add, Nat.add_zero, Nat.reduceAdd, Nat.reduceMul, Nat.zero_mul, Value.cells, List.toList_toArray, zerosA, List.replicate, List.flatten, List.append_nil]; done)) (by (simp; omega))) (by exact one_part (optsA_one _) _ _) (by (unfold maxLen; omega)) (by omega) (by (dsimp only [List.set, List.append, List.cons_append, List.nil_append, roB_cells, roI_cells, roO_cells, splice, ofConst, AV.cells, List.map, List.map_cons, List.map_nil, List.take, List.drop, Nat.zero_add, Nat.add_zero, Nat.reduceAdd, Nat.reduceMul, Nat.zero_mul, Value.cells, List.toList_toArray, zerosA, List.replicate, List.flatten, List.append_nil]; done)) (fun _ => by (dsimp only [List.set]; done)) ?_)
                    intro V13 hV13
                    refine AM.ok ?_
                    dsimp only [putE]
                    refine AM.nil ?_
                    try dsimp only [List.cons_append, List.nil_append]
                    refine AMS.go (by exact (splitAt' 0 rfl (splitAt' 0 rfl splitNil))) ?_
                    try dsimp only [List.eraseIdx]
                    refine AM.main _ rfl (fun w0 R0 => ?_)
                    (refine AO.appendCut (i := 1) rfl rfl rfl rfl (by rfl) (by rfl) rfl rfl rfl (by omega) (by exact SrcA.row TyD.ax (by repeat (exact List.Mem.head _)) (by (simp; omega))) (by exact one_part (optsA_one _) _ _) (by (unfold maxLen; omega)) (by omega) ⟨by omega, by assumption⟩ (by (dsimp only [List.set, List.append, List.cons_append, List.nil_append, roB_cells, roI_cells, roO_cells, splice, ofConst, AV.cells, List.map, List.map_cons, List.map_nil, List.take, List.drop, Nat.zero_add, Nat.add_zero, Nat.reduceAdd, Nat.reduceMul, Nat.zero_mul, Value.cells, List.toList_toArray, zerosA, List.replicate, List.flatten, List.append_nil]; done)) (fun _ => by (dsimp only [List.set]; done)) ?_)
                    intro V14 hV14
                    refine AM.ok ?_
                    dsimp only [putE]
                    refine AM.nil ?_
                    try dsimp only [List.cons_append, List.nil_append]
                    refine AMS.go (by exact splitNil) ?_
                    try dsimp only [List.eraseIdx]
                    refine AM.op rfl (O.fieldAddr rfl rfl) rfl rfl rfl ?_
                    refine AM.nil ?_
                    try dsimp only [List.cons_append, List.nil_append]
                    refine AMS.go (by exact (by exact splitBlk 133 3 rfl rfl splitNil)) ?_
                    try dsimp only [List.eraseIdx]
                    refine AM.main _ rfl (fun w0 R0 => ?_)
                    (refine AO.store (i := 0) rfl rfl rfl rfl rfl rfl (by (simp [AV.cells, AV.one, *]; done)) (by rfl) (by rfl) (by (dsimp only [List.set, List.append, List.cons_append, List.nil_append, roB_cells, roI_cells, roO_cells, splice, ofConst, AV.cells, List.map, List.map_cons, List.map_nil, List.take, List.drop, Nat.zero_add, Nat.add_zero, Nat.reduceAdd, Nat.reduceMul, Nat.zero_mul, Value.cells, List.toList_toArray, zerosA, List.replicate, List.flatten, List.append_nil]; done)) (by (dsimp only [List.set, List.append, List.cons_append, List.nil_append, roB_cells, roI_cells, roO_cells, splice, ofConst, AV.cells, List.map, List.map_cons, List.map_nil, List.take, List.drop, Nat.zero_add, Nat.add_zero, Nat.reduceAdd, Nat.reduceMul, Nat.zero_mul, Value.cells, List.toList_toArray, zerosA, List.replicate, List.flatten, List.append_nil]; done)) ?_)
                    refine AM.okN ?_
                    dsimp only [putE]
                    refine AM.nil ?_
                    try dsimp only [List.cons_append, List.nil_append]
                    refine AMS.nil ?_
                    refine AQ.blockN ?_
                    refine AQ.thenN ?_
                    refine AW.region ?_
                    refine AO.op (O.add rfl rfl rfl (by exact wI64 (by omega))) rfl rfl rfl ?_
                    refine AO.op (O.move rfl rfl) rfl rfl rfl ?_
                    refine AO.nil ?_
                    refine AQ.g ?_
                    refine G.coeRow 2 (insO os (oat L k)).length (optsA (insO os (oat L k))) rfl (by rw [insO_len]; omega) (CoeL.of_eq (ins_cells hpp (by omega) (by omega) (by omega))) ?_
                    refine AQ.u ?_
                    refine AQ.loopKN _ _ _ (by omega) (⟨k + 1, insO os (oat L k), _, by omega, hsc.symm, ‹_›, fun hh => absurd (congrArg List.length hh) (by rw [insO_len]; simp), rfl, rfl, rfl⟩) (by repeat (first | exact envNil | refine envCons rfl ?_)) (by repeat (first | exact envNil | refine envCons rfl ?_)) (by repeat (first | exact subPnil | refine subPcons 0 rfl ?_ | refine subPcons 2 rfl ?_))
                  · skip
                    refine AW.exit ?_
                    refine AQ.thenX ?_
                    refine AQ.loopX ?_
                    refine AQ.blockX rfl ?_
                    refine AQ.thenN ?_
                    refine AW.regionS [[(0, false), (1, false), (2, false), (3, false), (4, false), (6, false), (7, false), (8, false), (9, false), (5, true), (10, true)], [(11, true)], [(12, false)], [(13, true)]] (by kernel_rfl) (by kernel_rfl) ?_
                    refine AMS.go (by exact (splitAt' 1 rfl splitNil)) ?_
                    try dsimp only [List.eraseIdx]
                    refine AM.op rfl (O.fieldAddr rfl rfl) rfl rfl rfl ?_
                    refine AM.op rfl (O.load rfl rfl (by repeat (first | exact List.Mem.head _ | refine List.Mem.tail _ ?_)) (by rfl)) rfl rfl rfl ?_
                    refine AM.op rfl (O.move rfl rfl) rfl rfl rfl ?_
                    refine AM.op rfl (O.sliceV rfl rfl rfl rfl ⟨by omega, by omega, by omega⟩ (by omega)) rfl rfl rfl ?_
                    (refine AM.op rfl (O.loadK rfl rfl (by repeat (exact List.Mem.head _)) (by (dsimp only [List.set, List.append, List.cons_append, List.nil_append, roB_cells, roI_cells, roO_cells, splice, ofConst, AV.cells, List.map, List.map_cons, List.map_nil, List.take, List.drop, Nat.zero_add, Nat.add_zero, Nat.reduceAdd, Nat.reduceMul, Nat.zero_mul, Value.cells, List.toList_toArray, zerosA, List.replicate, List.flatten, List.append_nil]; done)) (by rfl)) rfl rfl rfl ?_)
                    refine AM.op rfl (O.fieldAddr rfl rfl) rfl rfl rfl ?_
                    refine AM.op rfl (O.load rfl rfl (by repeat (first | exact List.Mem.head _ | refine List.Mem.tail _ ?_)) (by rfl)) rfl rfl rfl ?_
                    refine AM.op rfl (O.move rfl rfl) rfl rfl rfl ?_
                    refine AM.op rfl (O.sliceV0 rfl rfl rfl rfl ⟨by omega, by omega, by omega⟩ (by omega) (by assumption)) rfl rfl rfl ?_
                    refine AM.main _ rfl (fun w0 R0 => ?_)
                    refine AO.opB (O.buildSlice rfl rfl rfl (by rfl) (by rfl) (by rfl) (by rfl)) rfl rfl rfl ?_
                    intro B12
                    refine AO.g ?_
                    refine G.closeRow (b := B12) (n := 1) (cap := 1) 0 rfl rfl rfl (Nat.le_refl _) (by (unfold maxLen; omega)) ?_
                    refine AO.u ?_
                    dsimp only [List.set]
                    refine AM.ok ?_
                    dsimp only [putE]
                    refine AM.main _ rfl (fun w0 R0 => ?_)
                    (refine AO.append' (i := 0) rfl rfl rfl rfl (by rfl) (by rfl) rfl rfl rfl (by exact SrcA.ro TyD.ax (by rfl) (Nat.le_of_ble_eq_true rfl)) (by rfl) (by (unfold maxLen; omega)) (by omega) (by (dsimp only [List.set, List.append, List.cons_append, List.nil_append, roB_cells, roI_cells, roO_cells, splice, ofConst, AV.cells, List.map, List.map_cons, List.map_nil, List.take, List.drop, Nat.zero_add, Nat.add_zero, Nat.reduceAdd, Nat.reduceMul, Nat.zero_mul, Value.cells, List.toList_toArray, zerosA, List.replicate, List.flatten, List.append_nil]; done)) (fun _ => by (dsimp only [List.set]; done)) ?_)
                    intro V13 hV13
                    refine AM.ok ?_
                    dsimp only [putE]
                    refine AM.nil ?_
                    try dsimp only [List.cons_append, List.nil_append]
                    refine AMS.go (by exact (splitAt' 0 rfl (splitAt' 0 rfl splitNil))) ?_
                    try dsimp only [List.eraseIdx]
                    refine AM.main _ rfl (fun w0 R0 => ?_)
                    (refine AO.appendCut (i := 1) rfl rfl rfl rfl (by rfl) (by rfl) rfl rfl rfl (by omega) (by exact SrcA.row TyD.ax (by repeat (exact List.Mem.head _)) (by rfl)) (by rfl) (by (unfold maxLen; omega)) (by omega) ⟨by omega, by assumption⟩ (by (dsimp only [List.set, List.append, List.cons_append, List.nil_append, roB_cells, roI_cells, roO_cells, splice, ofConst, AV.cells, List.map, List.map_cons, List.map_nil, List.take, List.drop, Nat.zero_add, Nat.add_zero, Nat.reduceAdd, Nat.reduceMul, Nat.zero_mul, Value.cells, List.toList_toArray, zerosA, List.replicate, List.flatten, List.append_nil]; done)) (fun _ => by (dsimp only [List.set]; done)) ?_)
                    intro V14 hV14
                    refine AM.ok ?_
                    dsimp only [putE]
                    refine AM.nil ?_
                    try dsimp only [List.cons_append, List.nil_append]
                    refine AMS.go (by exact splitNil) ?_
                    try dsimp only [List.eraseIdx]
                    refine AM.op rfl (O.fieldAddr rfl rfl) rfl rfl rfl ?_
                    refine AM.nil ?_
                    try dsimp only [List.cons_append, List.nil_append]
                    refine AMS.go (by exact (by exact splitBlk 133 3 rfl rfl splitNil)) ?_
                    try dsimp only [List.eraseIdx]
                    refine AM.main _ rfl (fun w0 R0 => ?_)
                    (refine AO.store (i := 0) rfl rfl rfl rfl rfl rfl (by (simp [AV.cells, AV.one, *]; done)) (by rfl) (by rfl) (by (dsimp only [List.set, List.append, List.cons_append, List.nil_append, roB_cells, roI_cells, roO_cells, splice, ofConst, AV.cells, List.map, List.map_cons, List.map_nil, List.take, List.drop, Nat.zero_add, Nat.add_zero, Nat.reduceAdd, Nat.reduceMul, Nat.zero_mul, Value.cells, List.toList_toArray, zerosA, List.replicate, List.flatten, List.append_nil]; done)) (by (dsimp only [List.set, List.append, List.cons_append, List.nil_append, roB_cells, roI_cells, roO_cells, splice, ofConst, AV.cells, List.map, List.map_cons, List.map_nil, List.take, List.drop, Nat.zero_add, Nat.add_zero, Nat.reduceAdd, Nat.reduceMul, Nat.zero_mul, Value.cells, List.toList_toArray, zerosA, List.replicate, List.flatten, List.append_nil]; done)) ?_)
                    refine AM.okN ?_
                    dsimp only [putE]
                    refine AM.nil ?_
                    try dsimp only [List.cons_append, List.nil_append]
                    refine AMS.nil ?_
                    refine AQ.blockN ?_
                    refine AQ.thenN ?_
                    refine AW.region ?_
                    refine AO.op (O.add rfl rfl rfl (by exact wI64 (by omega))) rfl rfl rfl ?_
                    refine AO.op (O.move rfl rfl) rfl rfl rfl ?_
                    refine AO.nil ?_
                    refine AQ.g ?_
                    refine G.coeRow 2 (insO os (oat L k)).length (optsA (insO os (oat L k))) rfl (by rw [insO_len]; omega) (CoeL.of_eq (ins_cells1 hpp (by omega) (by omega))) ?_
                    refine AQ.u ?_
                    refine AQ.loopKN _ _ _ (by omega) (⟨k + 1, insO os (oat L k), _, by omega, hsc.symm, ‹_›, fun hh => absurd (congrArg List.length hh) (by rw [insO_len]; simp), rfl, rfl, rfl⟩) (by repeat (first | exact envNil | refine envCons rfl ?_)) (by repeat (first | exact envNil | refine envCons rfl ?_)) (by repeat (first | exact subPnil | refine subPcons 0 rfl ?_ | refine subPcons 2 rfl ?_))
                    skip
          · skip
            have hoe : os = insAll L := by rw [hos, List.take_of_length_le (by omega)]
            subst hoe
            refine AW.g ?_
            refine G.freezeCell 0 0 4 rfl rfl rfl ?_
            refine AW.u ?_
            refine AW.exit ?_
            refine AQ.thenX ?_
            refine AQ.loopX ?_
            refine AQ.blockX rfl ?_
            refine AQ.thenN ?_
            refine AW.seq ?_
            refine AW.region ?_
            (refine AO.op (O.loadK rfl rfl (by repeat (exact List.Mem.head _)) (by (dsimp only [List.set, List.append, List.cons_append, List.nil_append, roB_cells, roI_cells, roO_cells, splice, ofConst, AV.cells, List.map, List.map_cons, List.map_nil, List.take, List.drop, Nat.zero_add, Nat.add_zero, Nat.reduceAdd, Nat.reduceMul, Nat.zero_mul, Value.cells, List.toList_toArray, zerosA, List.replicate, List.flatten, List.append_nil]; done)) (by rfl)) rfl rfl rfl ?_)
            (refine AO.store (i := 1) rfl rfl rfl rfl rfl rfl (by rfl) (by rfl) (by rfl) (by (dsimp only [List.set, List.append, List.cons_append, List.nil_append, roB_cells, roI_cells, roO_cells, splice, ofConst, AV.cells, List.map, List.map_cons, List.map_nil, List.take, List.drop, Nat.zero_add, Nat.add_zero, Nat.reduceAdd, Nat.reduceMul, Nat.zero_mul, Value.cells, List.toList_toArray, zerosA, List.replicate, List.flatten, List.append_nil]; done)) (by (dsimp only [List.set, List.append, List.cons_append, List.nil_append, roB_cells, roI_cells, roO_cells, splice, ofConst, AV.cells, List.map, List.map_cons, List.map_nil, List.take, List.drop, Nat.zero_add, Nat.add_zero, Nat.reduceAdd, Nat.reduceMul, Nat.zero_mul, Value.cells, List.toList_toArray, zerosA, List.replicate, List.flatten, List.append_nil]; done)) ?_)
            refine AO.op (O.assign rfl rfl) rfl rfl rfl ?_
            refine AO.nil ?_
            refine AQ.thenN ?_
            refine AW.ret ?_
            refine FnQ.coe (AQ.retCT rfl rfl rfl (by repeat (first | exact List.Mem.head _ | refine List.Mem.tail _ ?_)) (by (dsimp only [List.set, List.append, List.cons_append, List.nil_append, roB_cells, roI_cells, roO_cells, splice, ofConst, AV.cells, List.map, List.map_cons, List.map_nil, List.take, List.drop, Nat.zero_add, Nat.add_zero, Nat.reduceAdd, Nat.reduceMul, Nat.zero_mul, Value.cells, List.toList_toArray, zerosA, List.replicate, List.flatten, List.append_nil]; done)) (by rfl) ⟨_, List.nil_sublist _, .nil⟩ ⟨rfl, rfl⟩) (Coe.tup (by (repeat (first | exact CoeL.nil | refine CoeL.cons Coe.rfl ?_)); done)) (ret2M e)
end Go.Proofs.Ytbmndjjaaeambaa.By

namespace Go.Proofs.Ytbmndjjaaeambaa.By
open Go.RowKit L A
set_option linter.unusedVariables false
set_option linter.unusedSimpArgs false
attribute [local irreducible] AW AQ AO
end Go.Proofs.Ytbmndjjaaeambaa.By

namespace Go.Proofs.Ytbmndjjaaeambaa.By
open Go.RowKit L A
set_option linter.unusedVariables false
set_option linter.unusedSimpArgs false
attribute [local irreducible] AW AQ AO
end Go.Proofs.Ytbmndjjaaeambaa.By

namespace Go.Proofs.Ytbmndjjaaeambaa.By
open Go.RowKit L A Dk
set_option linter.unusedVariables false
set_option linter.unusedSimpArgs false
attribute [local irreducible] AW AQ AO
abbrev prs (b : Nat) (r : List UInt8) (bad : Bool) : HE := .blk b 78 2 [roB r, .val (.bool bad)]
theorem equal_fn (x y : List UInt8) : Sp Try.prog 63 [roB x, roB y] [] (Is (.val (.bool (decide (x = y))))) := by
  refine Sp.enter Try.func63 rfl _ Try.ntmps63 rfl (fun w0 R0 => ?_)
  refine AW.seq ?_
  refine AW.region ?_
  refine AO.op (O.assign rfl rfl) rfl rfl rfl ?_
  refine AO.nil ?_
  refine AQ.thenN ?_
  refine AW.seq ?_
  refine AW.region ?_
  refine AO.op (O.move rfl rfl) rfl rfl rfl ?_
  refine AO.op (O.convS rfl rfl (by rfl)) rfl rfl rfl ?_
  refine AO.op (O.move rfl rfl) rfl rfl rfl ?_
  refine AO.op (O.convS rfl rfl (by rfl)) rfl rfl rfl ?_
  refine AO.op (O.eqlS rfl rfl rfl (by rfl)) rfl rfl rfl ?_
  refine AO.op (O.assign rfl rfl) rfl rfl rfl ?_
  refine AO.nil ?_
  refine AQ.thenN ?_
  refine AW.ret ?_
  have e : decide (x = y) = (x == y) := dec_eq (by simp)
  refine AQ.ret1 rfl rfl ⟨_, List.nil_sublist _, .nil⟩ (⟨by rw [strOf_toList, strOf_toList, e], rfl⟩)
theorem zerosU8 (n : Nat) : zerosA n (.int .u8 0) = bytesA (List.replicate n 0) := by
  rw [zerosA, show (Value.int IntKind.u8 0).cells.toList.map AV.val = [AV.val (.int .u8 0)] from rfl, List.flatten_replicate_singleton]
  simp [bytesA]
theorem prsS {b : Nat} {p q : List UInt8 × List UInt8 × Bool} (h : q = p) {v : AV} (hv : v = roB p.1) : IsM (roB q.1) (prs b q.2.1 q.2.2) v [prs b p.2.1 p.2.2] := by subst h; exact ⟨hv, rfl⟩
set_option maxHeartbeats 1000000 in
theorem take_fn (b : Nat) (r : List UInt8) (bad : Bool) (n : Int) (hn : 0 ≤ n ∧ n ≤ 1000000) :
    Sp Try.prog 61 [ptr b, .val (.int .i64 n)] [prs b r bad] (IsM (roB (takeP r bad n).1) (prs b (takeP r bad n).2.1 (takeP r bad n).2.2)) := by
  obtain ⟨k, rfl⟩ : ∃ k : Nat, n = (k : Int) := ⟨n.toNat, by omega⟩
  have hmin : (if (4 : Int) < (k : Int) then 4 else (k : Int)) = ((min k 4 : Nat) : Int) := by split <;> omega
  refine Sp.enter Try.func61 rfl _ Try.ntmps61 rfl (fun w0 R0 => ?_)
  refine AW.seq ?_
  refine AW.region ?_
  refine AO.op (O.assign rfl rfl) rfl rfl rfl ?_
  refine AO.nil ?_
  refine AQ.thenN ?_
  refine AW.seq ?_
  refine AW.seq ?_
  refine AW.region ?_
  refine AO.op (O.move rfl rfl) rfl rfl rfl ?_
  refine AO.op (O.move rfl rfl) rfl rfl rfl ?_
  refine AO.op (O.nilCheck rfl rfl) rfl rfl rfl ?_
  refine AO.op (O.fieldAddr rfl rfl) rfl rfl rfl ?_
  refine AO.op (O.load rfl rfl (by repeat (exact List.Mem.head _)) (by rfl)) rfl rfl rfl ?_
  refine AO.op (O.lenR rfl rfl) rfl rfl rfl ?_
  refine AO.op (O.gtr rfl rfl rfl (by rfl)) rfl rfl rfl ?_
  refine AO.nil ?_
  refine AQ.thenN ?_
  refine AW.split rfl (fun h => ?_) (fun h => ?_) <;> (try simp only [decide_eq_true_eq, decide_eq_false_iff_not, beq_iff_eq, beq_eq_false_iff_ne, bne_iff_ne, bne_eq_false_iff_eq, Bool.not_eq_true', Bool.not_eq_false', Bool.not_eq_true, Bool.not_eq_false, ne_eq, Int.not_lt, Int.not_le, Bool.and_eq_true, Bool.or_eq_true, Bool.or_eq_false_iff, Bool.and_eq_false_imp, strOf_toList, Decidable.not_not] at h)
  · skip
    have e : takeP r bad k = (List.replicate (min k 4) 0, r, true) := by
      rw [takeP, if_pos h, show (min (k : Int) 4).toNat = min k 4 by omega]
    refine AW.seq ?_
    refine AW.region ?_
    refine AO.op (O.move rfl rfl) rfl rfl rfl ?_
    refine AO.op (O.nilCheck rfl rfl) rfl rfl rfl ?_
    refine AO.op (O.fieldAddr rfl rfl) rfl rfl rfl ?_
    (refine AO.store (i := 0) rfl rfl rfl rfl rfl rfl (by rfl) (by rfl) (by rfl) (by (dsimp only [List.set, List.append, List.cons_append, List.nil_append, roB_cells, roI_cells, roO_cells, splice, ofConst, AV.cells, List.map, List.map_cons, List.map_nil, List.take, List.drop, Nat.zero_add, Nat.add_zero, Nat.reduceAdd, Nat.reduceMul, Nat.zero_mul, Value.cells, List.toList_toArray, zerosA, List.replicate, List.flatten, List.append_nil]; done)) (by (dsimp only [List.set, List.append, List.cons_append, List.nil_append, roB_cells, roI_cells, roO_cells, splice, ofConst, AV.cells, List.map, List.map_cons, List.map_nil, List.take, List.drop, Nat.zero_add, Nat.add_zero, Nat.reduceAdd, Nat.reduceMul, Nat.zero_mul, Value.cells, List.toList_toArray, zerosA, List.replicate, List.flatten, List.append_nil]; done)) ?_)
    refine AO.nil ?_
    refine AQ.thenN ?_
    refine AW.seq ?_
    refine AW.region ?_
    refine AO.op (O.move rfl rfl) rfl rfl rfl ?_
    refine AO.op (O.minI rfl rfl rfl rfl) rfl rfl rfl ?_
    refine AO.opB (O.makeSlice rfl rfl rfl (by assumption) (by assumption) (by omega) (by (unfold maxLen; omega)) (by rfl)) rfl rfl rfl ?_
    intro B1
    refine AO.op (O.assign rfl rfl) rfl rfl rfl ?_
    refine AO.nil ?_
    refine AQ.thenN ?_
    refine AW.ret ?_
    refine AQ.thenR ?_
    refine AQ.g ?_
    refine G.freezeSl 0 4 rfl rfl ⟨Nat.le_refl _, by unfold maxLen; omega⟩ ?_
    refine AQ.u ?_
    refine AQ.g ?_
    refine G.unfull 4 rfl ?_
    refine AQ.u ?_
    refine AQ.ret1 rfl rfl ⟨_, by repeat (first | exact List.Sublist.slnil | refine List.Sublist.cons_cons _ ?_), List.Perm.refl _⟩ (prsS e (roB_of (by simp) (zerosU8 _)))
  · skip
    have e : takeP r bad k = (r.take k, r.drop k, bad) := by rw [takeP, if_neg (by omega)]; simp
    refine AW.skip ?_
    refine AQ.thenN ?_
    refine AW.seq ?_
    refine AW.region ?_
    refine AO.op (O.move rfl rfl) rfl rfl rfl ?_
    refine AO.op (O.nilCheck rfl rfl) rfl rfl rfl ?_
    refine AO.op (O.fieldAddr rfl rfl) rfl rfl rfl ?_
    refine AO.op (O.load rfl rfl (by repeat (exact List.Mem.head _)) (by rfl)) rfl rfl rfl ?_
    refine AO.op (O.move rfl rfl) rfl rfl rfl ?_
    refine AO.op (O.move rfl rfl) rfl rfl rfl ?_
    refine AO.op (O.sliceMax rfl rfl rfl rfl (by rfl) (by rfl) (by omega) (by rfl)) rfl rfl rfl ?_
    refine AO.op (O.assign rfl rfl) rfl rfl rfl ?_
    refine AO.nil ?_
    refine AQ.thenN ?_
    refine AW.seq ?_
    refine AW.region ?_
    refine AO.op (O.move rfl rfl) rfl rfl rfl ?_
    refine AO.op (O.move rfl rfl) rfl rfl rfl ?_
    refine AO.op (O.nilCheck rfl rfl) rfl rfl rfl ?_
    refine AO.op (O.fieldAddr rfl rfl) rfl rfl rfl ?_
    refine AO.op (O.load rfl rfl (by repeat (exact List.Mem.head _)) (by rfl)) rfl rfl rfl ?_
    refine AO.op (O.move rfl rfl) rfl rfl rfl ?_
    refine AO.op (O.sliceFromB rfl rfl rfl (by rfl) (by omega)) rfl rfl rfl ?_
    refine AO.op (O.nilCheck rfl rfl) rfl rfl rfl ?_
    refine AO.op (O.fieldAddr rfl rfl) rfl rfl rfl ?_
    (refine AO.store (i := 0) rfl rfl rfl rfl rfl rfl (by rfl) (by rfl) (by rfl) (by (dsimp only [List.set, List.append, List.cons_append, List.nil_append, roB_cells, roI_cells, roO_cells, splice, ofConst, AV.cells, List.map, List.map_cons, List.map_nil, List.take, List.drop, Nat.zero_add, Nat.add_zero, Nat.reduceAdd, Nat.reduceMul, Nat.zero_mul, Value.cells, List.toList_toArray, zerosA, List.replicate, List.flatten, List.append_nil]; done)) (by (dsimp only [List.set, List.append, List.cons_append, List.nil_append, roB_cells, roI_cells, roO_cells, splice, ofConst, AV.cells, List.map, List.map_cons, List.map_nil, List.take, List.drop, Nat.zero_add, Nat.add_zero, Nat.reduceAdd, Nat.reduceMul, Nat.zero_mul, Value.cells, List.toList_toArray, zerosA, List.replicate, List.flatten, List.append_nil]; done)) ?_)
    refine AO.nil ?_
    refine AQ.thenN ?_
    refine AW.seq ?_
    refine AW.region ?_
    refine AO.op (O.move rfl rfl) rfl rfl rfl ?_
    refine AO.op (O.assign rfl rfl) rfl rfl rfl ?_
    refine AO.nil ?_
    refine AQ.thenN ?_
    refine AW.ret ?_
    refine AQ.g ?_
    refine G.unfull 4 rfl ?_
    refine AQ.u ?_
    refine AQ.ret1 rfl rfl ⟨_, by repeat (first | exact List.Sublist.slnil | refine List.Sublist.cons_cons _ ?_), List.Perm.refl _⟩ (prsS e (roB_of (by simp; omega) (by simp)))
theorem prsN {b : Nat} {p q : Int × List UInt8 × Bool} (h : q = p) : IsM (.val (.int .i64 q.1)) (prs b q.2.1 q.2.2) (.val (.int .i64 p.1)) [prs b p.2.1 p.2.2] := by subst h; exact ⟨rfl, rfl⟩
set_option maxHeartbeats 1000000 in
theorem pnumber_fn (b : Nat) (r : List UInt8) (bad : Bool) (n : Int) (hn : 0 ≤ n ∧ n ≤ 15) :
    Sp Try.prog 62 [ptr b, .val (.int .u8 n)] [prs b r bad] (IsM (.val (.int .i64 (numP r bad n).1)) (prs b (numP r bad n).2.1 (numP r bad n).2.2)) := by
  have q1 := takeP_len r bad 1 (by omega)
  have q2 := takeP_len r bad 2 (by omega)
  have q1' := q1.2.2 (by omega)
  have q2' := q2.2.2 (by omega)
  have u1 := u8_lt (bt (takeP r bad 1).1 0)
  have u2 := u8_lt (bt (takeP r bad 2).1 0)
  have u3 := u8_lt (bt (takeP r bad 2).1 1)
  refine Sp.enter Try.func62 rfl _ Try.ntmps62 rfl (fun w0 R0 => ?_)
  refine AW.seq ?_
  refine AW.region ?_
  refine AO.op (O.assign rfl rfl) rfl rfl rfl ?_
  refine AO.nil ?_
  refine AQ.thenN ?_
  refine AW.seq ?_
  refine AW.seq ?_
  refine AW.region ?_
  refine AO.op (O.move rfl rfl) rfl rfl rfl ?_
  refine AO.nil ?_
  refine AQ.thenN ?_
  refine AW.block ?_
  refine AW.seq ?_
  refine AW.region ?_
  refine AO.op (O.eql rfl rfl rfl (by rfl)) rfl rfl rfl ?_
  refine AO.op (O.assign rfl rfl) rfl rfl rfl ?_
  refine AO.nil ?_
  refine AQ.thenN ?_
  refine AW.split rfl (fun h => ?_) (fun h => ?_) <;> (try simp only [decide_eq_true_eq, decide_eq_false_iff_not, beq_iff_eq, beq_eq_false_iff_ne, bne_iff_ne, bne_eq_false_iff_eq, Bool.not_eq_true', Bool.not_eq_false', Bool.not_eq_true, Bool.not_eq_false, ne_eq, Int.not_lt, Int.not_le, Bool.and_eq_true, Bool.or_eq_true, Bool.or_eq_false_iff, Bool.and_eq_false_imp, strOf_toList, Decidable.not_not] at h)
  · skip
    have e : numP r bad n = (((bt (takeP r bad 1).1 0).toNat : Int) + 13, (takeP r bad 1).2) := if_pos h
    refine AW.seq ?_
    refine AW.region ?_
    refine AO.op (O.move rfl rfl) rfl rfl rfl ?_
    (refine AO.callM1 (i := 0) rfl rfl Try.func61 rfl rfl rfl rfl rfl rfl (take_fn _ r bad _ (by omega)) (by (dsimp only [List.set, List.append, List.cons_append, List.nil_append, roB_cells, roI_cells, roO_cells, splice, ofConst, AV.cells, List.map, List.map_cons, List.map_nil, List.take, List.drop, Nat.zero_add, Nat.add_zero, Nat.reduceAdd, Nat.reduceMul, Nat.zero_mul, Value.cells, List.toList_toArray, zerosA, List.replicate, List.flatten, List.append_nil]; done)) ?_)
    refine AO.op (O.idxR rfl rfl rfl ⟨(by omega), (by omega)⟩) rfl rfl rfl ?_
    refine AO.op (O.loadR rfl rfl (by exact bt_at (k := 0) (by omega) rfl)) rfl rfl rfl ?_
    refine AO.op (O.conv rfl rfl (by exact wI64 (by omega))) rfl rfl rfl ?_
    refine AO.op (O.add rfl rfl rfl (by exact wI64 (by omega))) rfl rfl rfl ?_
    refine AO.op (O.assign rfl rfl) rfl rfl rfl ?_
    refine AO.nil ?_
    refine AQ.thenN ?_
    refine AW.ret ?_
    refine AQ.blockR ?_
    refine AQ.thenR ?_
    refine AQ.ret1 rfl rfl ⟨_, by repeat (first | exact List.Sublist.slnil | refine List.Sublist.cons_cons _ ?_), List.Perm.refl _⟩ (prsN e)
  · skip
    refine AW.seq ?_
    refine AW.region ?_
    refine AO.op (O.eql rfl rfl rfl (by rfl)) rfl rfl rfl ?_
    refine AO.op (O.assign rfl rfl) rfl rfl rfl ?_
    refine AO.nil ?_
    refine AQ.thenN ?_
    refine AW.split rfl (fun h2 => ?_) (fun h2 => ?_) <;> (try simp only [decide_eq_true_eq, decide_eq_false_iff_not, beq_iff_eq, beq_eq_false_iff_ne, bne_iff_ne, bne_eq_false_iff_eq, Bool.not_eq_true', Bool.not_eq_false', Bool.not_eq_true, Bool.not_eq_false, ne_eq, Int.not_lt, Int.not_le, Bool.and_eq_true, Bool.or_eq_true, Bool.or_eq_false_iff, Bool.and_eq_false_imp, strOf_toList, Decidable.not_not] at h2)
    · skip
      have e : numP r bad n = (((bt (takeP r bad 2).1 0).toNat : Int) * 256 + ((bt (takeP r bad 2).1 1).toNat : Int) + 269, (takeP r bad 2).2) := by rw [numP, if_neg h, if_pos h2]
      refine AW.seq ?_
      refine AW.region ?_
      refine AO.op (O.move rfl rfl) rfl rfl rfl ?_
      (refine AO.callM1 (i := 0) rfl rfl Try.func61 rfl rfl rfl rfl rfl rfl (take_fn _ r bad _ (by omega)) (by (dsimp only [List.set, List.append, List.cons_append, List.nil_append, roB_cells, roI_cells, roO_cells, splice, ofConst, AV.cells, List.map, List.map_cons, List.map_nil, List.take, List.drop, Nat.zero_add, Nat.add_zero, Nat.reduceAdd, Nat.reduceMul, Nat.zero_mul, Value.cells, List.toList_toArray, zerosA, List.replicate, List.flatten, List.append_nil]; done)) ?_)
      refine AO.op (O.assign rfl rfl) rfl rfl rfl ?_
      refine AO.nil ?_
      refine AQ.thenN ?_
      refine AW.seq ?_
      refine AW.regionD 12 (by kernel_rfl) (by kernel_rfl) ?_
      simp only [List.take_succ_cons, List.take_zero, List.drop_succ_cons, List.drop_zero]
      refine FA.op (O.move rfl rfl) rfl rfl rfl rfl ?_
      refine FA.op (O.idxR rfl rfl rfl ⟨(by omega), (by omega)⟩) rfl rfl rfl rfl ?_
      refine FA.op (O.loadR rfl rfl (by exact bt_at (k := 0) (by omega) rfl)) rfl rfl rfl rfl ?_
      refine FA.op (O.conv rfl rfl (by exact wI64 (by omega))) rfl rfl rfl rfl ?_
      refine FA.op (O.shlK 8 256 rfl rfl rfl rfl (by rfl) (by exact wI64 (by omega))) rfl rfl rfl rfl ?_
      refine FA.op (O.move rfl rfl) rfl rfl rfl rfl ?_
      refine FA.op (O.idxR rfl rfl rfl ⟨(by omega), (by omega)⟩) rfl rfl rfl rfl ?_
      refine FA.op (O.loadR rfl rfl (by exact bt_at (k := 1) (by omega) rfl)) rfl rfl rfl rfl ?_
      refine FA.op (O.conv rfl rfl (by exact wI64 (by omega))) rfl rfl rfl rfl ?_
      refine FA.op (O.add rfl rfl rfl (by exact wI64 (by omega))) rfl rfl rfl rfl ?_
      refine FA.op (O.add rfl rfl rfl (by exact wI64 (by omega))) rfl rfl rfl rfl ?_
      refine FA.op (O.assign rfl rfl) rfl rfl rfl rfl ?_
      refine FA.nil ?_
      simp only [chosen, List.nil_append, List.cons_append, List.append_nil]
      refine AO.nil ?_
      refine AQ.thenN ?_
      refine AW.ret ?_
      refine AQ.blockR ?_
      refine AQ.thenR ?_
      refine AQ.ret1 rfl rfl ⟨_, by repeat (first | exact List.Sublist.slnil | refine List.Sublist.cons_cons _ ?_), List.Perm.refl _⟩ (prsN e)
    · skip
      refine AW.seq ?_
      refine AW.region ?_
      refine AO.op (O.eql rfl rfl rfl (by rfl)) rfl rfl rfl ?_
      refine AO.op (O.assign rfl rfl) rfl rfl rfl ?_
      refine AO.nil ?_
      refine AQ.thenN ?_
      refine AW.split rfl (fun h3 => ?_) (fun h3 => ?_) <;> (try simp only [decide_eq_true_eq, decide_eq_false_iff_not, beq_iff_eq, beq_eq_false_iff_ne, bne_iff_ne, bne_eq_false_iff_eq, Bool.not_eq_true', Bool.not_eq_false', Bool.not_eq_true, Bool.not_eq_false, ne_eq, Int.not_lt, Int.not_le, Bool.and_eq_true, Bool.or_eq_true, Bool.or_eq_false_iff, Bool.and_eq_false_imp, strOf_toList, Decidable.not_not] at h3)
      · skip
        have e : numP r bad n = (n, r, true) := by rw [numP, if_neg h, if_neg h2, if_pos h3]
        refine AW.region ?_
        refine AO.op (O.move rfl rfl) rfl rfl rfl ?_
        refine AO.op (O.nilCheck rfl rfl) rfl rfl rfl ?_
        refine AO.op (O.fieldAddr rfl rfl) rfl rfl rfl ?_
        (refine AO.store (i := 0) rfl rfl rfl rfl rfl rfl (by rfl) (by rfl) (by rfl) (by (dsimp only [List.set, List.append, List.cons_append, List.nil_append, roB_cells, roI_cells, roO_cells, splice, ofConst, AV.cells, List.map, List.map_cons, List.map_nil, List.take, List.drop, Nat.zero_add, Nat.add_zero, Nat.reduceAdd, Nat.reduceMul, Nat.zero_mul, Value.cells, List.toList_toArray, zerosA, List.replicate, List.flatten, List.append_nil]; done)) (by (dsimp only [List.set, List.append, List.cons_append, List.nil_append, roB_cells, roI_cells, roO_cells, splice, ofConst, AV.cells, List.map, List.map_cons, List.map_nil, List.take, List.drop, Nat.zero_add, Nat.add_zero, Nat.reduceAdd, Nat.reduceMul, Nat.zero_mul, Value.cells, List.toList_toArray, zerosA, List.replicate, List.flatten, List.append_nil]; done)) ?_)
        refine AO.nil ?_
        refine AQ.blockN ?_
        refine AQ.thenN ?_
        refine AW.seq ?_
        refine AW.region ?_
        refine AO.op (O.move rfl rfl) rfl rfl rfl ?_
        refine AO.op (O.conv rfl rfl (by exact wI64 (by omega))) rfl rfl rfl ?_
        refine AO.op (O.assign rfl rfl) rfl rfl rfl ?_
        refine AO.nil ?_
        refine AQ.thenN ?_
        refine AW.ret ?_
        refine AQ.ret1 rfl rfl ⟨_, by repeat (first | exact List.Sublist.slnil | refine List.Sublist.cons_cons _ ?_), List.Perm.refl _⟩ (prsN e)
      · skip
        have e : numP r bad n = (n, r, bad) := by rw [numP, if_neg h, if_neg h2, if_neg h3]
        refine AW.skip ?_
        refine AQ.blockN ?_
        refine AQ.thenN ?_
        refine AW.seq ?_
        refine AW.region ?_
        refine AO.op (O.move rfl rfl) rfl rfl rfl ?_
        refine AO.op (O.conv rfl rfl (by exact wI64 (by omega))) rfl rfl rfl ?_
        refine AO.op (O.assign rfl rfl) rfl rfl rfl ?_
        refine AO.nil ?_
        refine AQ.thenN ?_
        refine AW.ret ?_
        refine AQ.ret1 rfl rfl ⟨_, by repeat (first | exact List.Sublist.slnil | refine List.Sublist.cons_cons _ ?_), List.Perm.refl _⟩ (prsN e)
end Go.Proofs.Ytbmndjjaaeambaa.By

namespace Go.Proofs.Ytbmndjjaaeambaa.By
open Go.RowKit L A Dk
set_option linter.unusedVariables false
set_option linter.unusedSimpArgs false
attribute [local irreducible] AW AQ AO
theorem take_of {b : Nat} {r : List UInt8} {bad : Bool} {n : Int} {x r' : List UInt8} {bad' : Bool} (e : takeP r bad n = (x, r', bad')) (hn : 0 ≤ n ∧ n ≤ 1000000) :
    Sp Try.prog 61 [ptr b, .val (.int .i64 n)] [prs b r bad] (IsM (roB x) (prs b r' bad')) := by
  have := take_fn b r bad n hn
  rwa [e] at this
theorem pnumber_of {b : Nat} {r : List UInt8} {bad : Bool} {n : Int} {v : Int} {r' : List UInt8} {bad' : Bool} (e : numP r bad n = (v, r', bad')) (hn : 0 ≤ n ∧ n ≤ 15) :
    Sp Try.prog 62 [ptr b, .val (.int .u8 n)] [prs b r bad] (IsM (.val (.int .i64 v)) (prs b r' bad')) := by
  have := pnumber_fn b r bad n hn
  rwa [e] at this
abbrev decM (b x : List UInt8) (opts : List Opt) (r : List UInt8) : Msg := ⟨((bt b 0).toNat : Int) / 16 % 4, ((bt b 1).toNat : Int), ((bt b 2).toNat : Int) * 256 + ((bt b 3).toNat : Int), x, opts, r.drop 1⟩
set_option maxHeartbeats 4000000 in
theorem decode_fn (b : List UInt8) (hb : b.length ≤ 1000000) : Sp Try.prog 50 [roB b] [] (Is (resM (decS b))) := by
  have u0 := u8_lt (bt b 0)
  have u1 := u8_lt (bt b 1)
  have u2 := u8_lt (bt b 2)
  have u3 := u8_lt (bt b 3)
  refine Sp.enter Try.func50 rfl _ Try.ntmps50 rfl (fun w0 R0 => ?_)
  refine AW.seq ?_
  refine AW.region ?_
  refine AO.opB (O.alloc rfl (by (dsimp only [List.set, List.append, List.cons_append, List.nil_append, roB_cells, roI_cells, roO_cells, splice, ofConst, AV.cells, List.map, List.map_cons, List.map_nil, List.take, List.drop, Nat.zero_add, Nat.add_zero, Nat.reduceAdd, Nat.reduceMul, Nat.zero_mul, Value.cells, List.toList_toArray, zerosA, List.replicate, List.flatten, List.append_nil]; done)) (by rfl)) rfl rfl rfl ?_
  intro B1
  refine AO.op (O.assign rfl rfl) rfl rfl rfl ?_
  refine AO.nil ?_
  refine AQ.thenN ?_
  refine AW.seq ?_
  refine AW.block ?_
  refine AW.seq ?_
  refine AW.region ?_
  refine AO.op (O.move rfl rfl) rfl rfl rfl ?_
  refine AO.op (O.lenR rfl rfl) rfl rfl rfl ?_
  refine AO.op (O.gtr rfl rfl rfl (by rfl)) rfl rfl rfl ?_
  refine AO.op (O.assign rfl rfl) rfl rfl rfl ?_
  refine AO.nil ?_
  refine AQ.thenN ?_
  refine AW.split rfl (fun h => ?_) (fun h => ?_) <;> (try simp only [decide_eq_true_eq, decide_eq_false_iff_not, beq_iff_eq, beq_eq_false_iff_ne, bne_iff_ne, bne_eq_false_iff_eq, Bool.not_eq_true', Bool.not_eq_false', Bool.not_eq_true, Bool.not_eq_false, ne_eq, Int.not_lt, Int.not_le, Bool.and_eq_true, Bool.or_eq_true, Bool.or_eq_false_iff, Bool.and_eq_false_imp, strOf_toList, Decidable.not_not] at h)
  · skip
    have e : decS b = (Msg.none, 8) := by rw [decS, if_pos (by omega)]
    refine AW.seq ?_
    refine AW.region ?_
    refine AO.op (O.build rfl rfl rfl (by rfl)) rfl rfl rfl ?_
    (refine AO.store (i := 0) rfl rfl rfl rfl rfl rfl (by rfl) (by rfl) (by rfl) (by (dsimp only [List.set, List.append, List.cons_append, List.nil_append, roB_cells, roI_cells, roO_cells, splice, ofConst, AV.cells, List.map, List.map_cons, List.map_nil, List.take, List.drop, Nat.zero_add, Nat.add_zero, Nat.reduceAdd, Nat.reduceMul, Nat.zero_mul, Value.cells, List.toList_toArray, zerosA, List.replicate, List.flatten, List.append_nil]; done)) (by (dsimp only [List.set, List.append, List.cons_append, List.nil_append, roB_cells, roI_cells, roO_cells, splice, ofConst, AV.cells, List.map, List.map_cons, List.map_nil, List.take, List.drop, Nat.zero_add, Nat.add_zero, Nat.reduceAdd, Nat.reduceMul, Nat.zero_mul, Value.cells, List.toList_toArray, zerosA, List.replicate, List.flatten, List.append_nil]; done)) ?_)
    refine AO.op (O.assign rfl rfl) rfl rfl rfl ?_
    refine AO.nil ?_
    refine AQ.thenN ?_
    refine AW.ret ?_
    refine AQ.blockR ?_
    refine AQ.thenR ?_
    refine FnQ.coe (AQ.retCT rfl rfl rfl (by repeat (exact List.Mem.head _)) (by (dsimp only [List.set, List.append, List.cons_append, List.nil_append, roB_cells, roI_cells, roO_cells, splice, ofConst, AV.cells, List.map, List.map_cons, List.map_nil, List.take, List.drop, Nat.zero_add, Nat.add_zero, Nat.reduceAdd, Nat.reduceMul, Nat.zero_mul, Value.cells, List.toList_toArray, zerosA, List.replicate, List.flatten, List.append_nil]; done)) (by rfl) ⟨_, List.nil_sublist _, .nil⟩ ⟨rfl, rfl⟩) (Coe.tup (by (repeat (first | exact CoeL.nil | refine CoeL.cons Coe.rfl ?_ | refine CoeL.cons Coe.nil ?_ | refine CoeL.cons (Coe.agg ?_) ?_)); done)) (retM e rfl)
  · skip
    refine AW.seq ?_
    refine AW.region ?_
    refine AO.op (O.move rfl rfl) rfl rfl rfl ?_
    refine AO.op (O.lenR rfl rfl) rfl rfl rfl ?_
    refine AO.op (O.lss rfl rfl rfl (by rfl)) rfl rfl rfl ?_
    refine AO.op (O.assign rfl rfl) rfl rfl rfl ?_
    refine AO.nil ?_
    refine AQ.thenN ?_
    refine AW.split rfl (fun h2 => ?_) (fun h2 => ?_) <;> (try simp only [decide_eq_true_eq, decide_eq_false_iff_not, beq_iff_eq, beq_eq_false_iff_ne, bne_iff_ne, bne_eq_false_iff_eq, Bool.not_eq_true', Bool.not_eq_false', Bool.not_eq_true, Bool.not_eq_false, ne_eq, Int.not_lt, Int.not_le, Bool.and_eq_true, Bool.or_eq_true, Bool.or_eq_false_iff, Bool.and_eq_false_imp, strOf_toList, Decidable.not_not] at h2)
    · skip
      have e : decS b = (Msg.none, 2) := by rw [decS, if_neg (by omega), if_pos (by omega)]
      refine AW.seq ?_
      refine AW.region ?_
      refine AO.op (O.build rfl rfl rfl (by rfl)) rfl rfl rfl ?_
      (refine AO.store (i := 0) rfl rfl rfl rfl rfl rfl (by rfl) (by rfl) (by rfl) (by (dsimp only [List.set, List.append, List.cons_append, List.nil_append, roB_cells, roI_cells, roO_cells, splice, ofConst, AV.cells, List.map, List.map_cons, List.map_nil, List.take, List.drop, Nat.zero_add, Nat.add_zero, Nat.reduceAdd, Nat.reduceMul, Nat.zero_mul, Value.cells, List.toList_toArray, zerosA, List.replicate, List.flatten, List.append_nil]; done)) (by (dsimp only [List.set, List.append, List.cons_append, List.nil_append, roB_cells, roI_cells, roO_cells, splice, ofConst, AV.cells, List.map, List.map_cons, List.map_nil, List.take, List.drop, Nat.zero_add, Nat.add_zero, Nat.reduceAdd, Nat.reduceMul, Nat.zero_mul, Value.cells, List.toList_toArray, zerosA, List.replicate, List.flatten, List.append_nil]; done)) ?_)
      refine AO.op (O.assign rfl rfl) rfl rfl rfl ?_
      refine AO.nil ?_
      refine AQ.thenN ?_
      refine AW.ret ?_
      refine AQ.blockR ?_
      refine AQ.thenR ?_
      refine FnQ.coe (AQ.retCT rfl rfl rfl (by repeat (exact List.Mem.head _)) (by (dsimp only [List.set, List.append, List.cons_append, List.nil_append, roB_cells, roI_cells, roO_cells, splice, ofConst, AV.cells, List.map, List.map_cons, List.map_nil, List.take, List.drop, Nat.zero_add, Nat.add_zero, Nat.reduceAdd, Nat.reduceMul, Nat.zero_mul, Value.cells, List.toList_toArray, zerosA, List.replicate, List.flatten, List.append_nil]; done)) (by rfl) ⟨_, List.nil_sublist _, .nil⟩ ⟨rfl, rfl⟩) (Coe.tup (by (repeat (first | exact CoeL.nil | refine CoeL.cons Coe.rfl ?_ | refine CoeL.cons Coe.nil ?_ | refine CoeL.cons (Coe.agg ?_) ?_)); done)) (retM e rfl)
    · skip
      obtain ⟨x, r0, bad0, e0⟩ : ∃ x r0 bad0, takeP (b.drop 4) false (((bt b 0).toNat : Int) % 16) = (x, r0, bad0) := ⟨_, _, _, rfl⟩
      obtain ⟨hf0, hx⟩ := Fits.first e0
      have hl0 := takeP_len (b.drop 4) false (((bt b 0).toNat : Int) % 16) (by omega)
      rw [e0] at hl0
      simp only [List.length_drop] at hl0
      refine AW.skip ?_
      refine AQ.blockN ?_
      refine AQ.thenN ?_
      refine AW.seq ?_
      refine AW.regionD 22 (by kernel_rfl) (by kernel_rfl) ?_
      simp only [List.take_succ_cons, List.take_zero, List.drop_succ_cons, List.drop_zero]
      refine FA.op (O.move rfl rfl) rfl rfl rfl rfl ?_
      refine FA.op (O.idxR rfl rfl rfl ⟨(by omega), (by omega)⟩) rfl rfl rfl rfl ?_
      refine FA.op (O.loadR rfl rfl (by exact bt_at (k := 0) (by omega) rfl)) rfl rfl rfl rfl ?_
      refine FA.op (O.shrK 4 16 rfl rfl rfl rfl (by rfl)) rfl rfl rfl rfl ?_
      refine FA.op (O.and_ rfl rfl rfl (andU8 2 (by decide) (by decide) (m := 4) (by decide) (by omega))) rfl rfl rfl rfl ?_
      refine FA.op (O.conv rfl rfl (by exact wI64 (by omega))) rfl rfl rfl rfl ?_
      refine FA.op (O.move rfl rfl) rfl rfl rfl rfl ?_
      refine FA.op (O.idxR rfl rfl rfl ⟨(by omega), (by omega)⟩) rfl rfl rfl rfl ?_
      refine FA.op (O.loadR rfl rfl (by exact bt_at (k := 1) (by omega) rfl)) rfl rfl rfl rfl ?_
      refine FA.op (O.conv rfl rfl (by exact wI64 (by omega))) rfl rfl rfl rfl ?_
      refine FA.op (O.move rfl rfl) rfl rfl rfl rfl ?_
      refine FA.op (O.idxR rfl rfl rfl ⟨(by omega), (by omega)⟩) rfl rfl rfl rfl ?_
      refine FA.op (O.loadR rfl rfl (by exact bt_at (k := 2) (by omega) rfl)) rfl rfl rfl rfl ?_
      refine FA.op (O.conv rfl rfl (by exact wI64 (by omega))) rfl rfl rfl rfl ?_
      refine FA.op (O.shlK 8 256 rfl rfl rfl rfl (by rfl) (by exact wI64 (by omega))) rfl rfl rfl rfl ?_
      refine FA.op (O.move rfl rfl) rfl rfl rfl rfl ?_
      refine FA.op (O.idxR rfl rfl rfl ⟨(by omega), (by omega)⟩) rfl rfl rfl rfl ?_
      refine FA.op (O.loadR rfl rfl (by exact bt_at (k := 3) (by omega) rfl)) rfl rfl rfl rfl ?_
      refine FA.op (O.conv rfl rfl (by exact wI64 (by omega))) rfl rfl rfl rfl ?_
      refine FA.op (O.or_ rfl rfl rfl (orI64 8 (m := 256) (by decide) (by omega) (by omega))) rfl rfl rfl rfl ?_
      refine FA.op (O.build rfl rfl rfl (by rfl)) rfl rfl rfl rfl ?_
      refine FA.opN (O.alloc rfl (by (dsimp only [List.set, List.append, List.cons_append, List.nil_append, roB_cells, roI_cells, roO_cells, splice, ofConst, AV.cells, List.map, List.map_cons, List.map_nil, List.take, List.drop, Nat.zero_add, Nat.add_zero, Nat.reduceAdd, Nat.reduceMul, Nat.zero_mul, Value.cells, List.toList_toArray, zerosA, List.replicate, List.flatten, List.append_nil]; done)) (by rfl)) rfl rfl rfl rfl ?_
      refine FA.nil ?_
      simp only [chosen, List.nil_append, List.cons_append, List.append_nil]
      rintro _ _ ⟨B2, rfl, rfl⟩
      simp only [List.cons_append, List.nil_append]
      (refine AO.store (i := 0) rfl rfl rfl rfl rfl rfl (by rfl) (by rfl) (by rfl) (by (dsimp only [List.set, List.append, List.cons_append, List.nil_append, roB_cells, roI_cells, roO_cells, splice, ofConst, AV.cells, List.map, List.map_cons, List.map_nil, List.take, List.drop, Nat.zero_add, Nat.add_zero, Nat.reduceAdd, Nat.reduceMul, Nat.zero_mul, Value.cells, List.toList_toArray, zerosA, List.replicate, List.flatten, List.append_nil]; done)) (by (dsimp only [List.set, List.append, List.cons_append, List.nil_append, roB_cells, roI_cells, roO_cells, splice, ofConst, AV.cells, List.map, List.map_cons, List.map_nil, List.take, List.drop, Nat.zero_add, Nat.add_zero, Nat.reduceAdd, Nat.reduceMul, Nat.zero_mul, Value.cells, List.toList_toArray, zerosA, List.replicate, List.flatten, List.append_nil]; done)) ?_)
      refine AO.nil ?_
      refine AQ.thenN ?_
      refine AW.seq ?_
      refine AW.region ?_
      refine AO.op (O.move rfl rfl) rfl rfl rfl ?_
      refine AO.op (O.sliceFromB (k := 4) rfl rfl rfl (by rfl) (by omega)) rfl rfl rfl ?_
      refine AO.op (O.build rfl rfl rfl (by rfl)) rfl rfl rfl ?_
      refine AO.opB (O.alloc rfl (by (dsimp only [List.set, List.append, List.cons_append, List.nil_append, roB_cells, roI_cells, roO_cells, splice, ofConst, AV.cells, List.map, List.map_cons, List.map_nil, List.take, List.drop, Nat.zero_add, Nat.add_zero, Nat.reduceAdd, Nat.reduceMul, Nat.zero_mul, Value.cells, List.toList_toArray, zerosA, List.replicate, List.flatten, List.append_nil]; done)) (by rfl)) rfl rfl rfl ?_
      intro B3
      (refine AO.store (i := 0) rfl rfl rfl rfl rfl rfl (by rfl) (by rfl) (by rfl) (by (dsimp only [List.set, List.append, List.cons_append, List.nil_append, roB_cells, roI_cells, roO_cells, splice, ofConst, AV.cells, List.map, List.map_cons, List.map_nil, List.take, List.drop, Nat.zero_add, Nat.add_zero, Nat.reduceAdd, Nat.reduceMul, Nat.zero_mul, Value.cells, List.toList_toArray, zerosA, List.replicate, List.flatten, List.append_nil]; done)) (by (dsimp only [List.set, List.append, List.cons_append, List.nil_append, roB_cells, roI_cells, roO_cells, splice, ofConst, AV.cells, List.map, List.map_cons, List.map_nil, List.take, List.drop, Nat.zero_add, Nat.add_zero, Nat.reduceAdd, Nat.reduceMul, Nat.zero_mul, Value.cells, List.toList_toArray, zerosA, List.replicate, List.flatten, List.append_nil]; done)) ?_)
      refine AO.nil ?_
      refine AQ.thenN ?_
      refine AW.seq ?_
      refine AW.region ?_
      refine AO.op (O.move rfl rfl) rfl rfl rfl ?_
      refine AO.op (O.idxR rfl rfl rfl ⟨(by omega), (by omega)⟩) rfl rfl rfl ?_
      refine AO.op (O.loadR rfl rfl (by exact bt_at (k := 0) (by omega) rfl)) rfl rfl rfl ?_
      refine AO.op (O.and_ rfl rfl rfl (andU8 4 (by decide) (by decide) (m := 16) (by decide) (by omega))) rfl rfl rfl ?_
      refine AO.op (O.conv rfl rfl (by exact wI64 (by omega))) rfl rfl rfl ?_
      (refine AO.callM1 (i := 0) rfl rfl Try.func61 rfl rfl rfl rfl rfl rfl (take_of e0 (by omega)) (by (dsimp only [List.set, List.append, List.cons_append, List.nil_append, roB_cells, roI_cells, roO_cells, splice, ofConst, AV.cells, List.map, List.map_cons, List.map_nil, List.take, List.drop, Nat.zero_add, Nat.add_zero, Nat.reduceAdd, Nat.reduceMul, Nat.zero_mul, Value.cells, List.toList_toArray, zerosA, List.replicate, List.flatten, List.append_nil]; done)) ?_)
      refine AO.op (O.call rfl Try.func52 rfl rfl rfl (clone_fn _ (by omega))) rfl rfl rfl ?_
      refine AO.op (O.fieldAddr rfl rfl) rfl rfl rfl ?_
      (refine AO.store (i := 1) rfl rfl rfl rfl rfl rfl (by rfl) (by rfl) (by rfl) (by (dsimp only [List.set, List.append, List.cons_append, List.nil_append, roB_cells, roI_cells, roO_cells, splice, ofConst, AV.cells, List.map, List.map_cons, List.map_nil, List.take, List.drop, Nat.zero_add, Nat.add_zero, Nat.reduceAdd, Nat.reduceMul, Nat.zero_mul, Value.cells, List.toList_toArray, zerosA, List.replicate, List.flatten, List.append_nil]; done)) (by (dsimp only [List.set, List.append, List.cons_append, List.nil_append, roB_cells, roI_cells, roO_cells, splice, ofConst, AV.cells, List.map, List.map_cons, List.map_nil, List.take, List.drop, Nat.zero_add, Nat.add_zero, Nat.reduceAdd, Nat.reduceMul, Nat.zero_mul, Value.cells, List.toList_toArray, zerosA, List.replicate, List.flatten, List.append_nil]; done)) ?_)
      refine AO.nil ?_
      refine AQ.thenN ?_
      refine AW.seq ?_
      refine AW.region ?_
      refine AO.op (O.assign rfl rfl) rfl rfl rfl ?_
      refine AO.nil ?_
      refine AQ.thenN ?_
      refine AW.seq ?_
      refine AW.block ?_
      refine AW.g ?_
      refine G.nilRow 62 2 ?_
      refine AW.u ?_
      refine AW.loopK [(0, _), (2, _), (4, _), (5, _)] (fun nn E H => ∃ (opts : List Opt) (last : Int) (r : List UInt8) (bad : Bool) (V : Value), (Fits b opts last r bad) ∧ (opts.length + r.length ≤ 4096) ∧ (0 ≤ last ∧ last ≤ 65804 * opts.length) ∧ (V.oneCell' = true) ∧ nn = r.length ∧ E = [(6, .val (.int .i64 last))] ∧ H = [.row V 62 2 opts.length (optsA opts), prs B3 r bad, .blk B2 29 6 [.val (.int .i64 (((bt b 0).toNat : Int) / 16 % 4)), .val (.int .i64 ((bt b 1).toNat : Int)), .val (.int .i64 (((bt b 2).toNat : Int) * 256 + ((bt b 3).toNat : Int))), roB x, .val V, .val (.slice none 0 0)], .blk B1 29 6 [.val (.int .i64 0), .val (.int .i64 0), .val (.int .i64 0), .val (.slice none 0 0), .val (.slice none 0 0), .val (.slice none 0 0)]]) _ (⟨[], 0, r0, bad0, _, hf0, by simp; omega, by simp, rfl, rfl, rfl, rfl⟩) (by repeat (first | exact envNil | refine envCons rfl ?_)) (by repeat (first | exact envNil | refine envCons rfl ?_)) (by repeat (first | exact subPnil | refine subPcons 0 rfl ?_)) ?_
      rintro nn E H ⟨opts, last, r, bad, V, hf, hn, hl, hV, rfl, rfl, rfl⟩
      dsimp only [List.cons_append, List.nil_append]
      refine AW.seq ?_
      refine AW.seq ?_
      refine AW.region ?_
      refine AO.op (O.fieldAddr rfl rfl) rfl rfl rfl ?_
      refine AO.op (O.load rfl rfl (by repeat (first | exact List.Mem.head _ | refine List.Mem.tail _ ?_)) (by rfl)) rfl rfl rfl ?_
      refine AO.op (O.not rfl rfl (by rfl)) rfl rfl rfl ?_
      refine AO.op (O.move rfl rfl) rfl rfl rfl ?_
      refine AO.opG rfl rfl rfl (fun hp => O.fieldAddr rfl rfl) ?_
      refine AO.opG rfl rfl rfl (fun hp => OpW.force 55 rfl (by exact hp) (O.load rfl rfl (by repeat (first | exact List.Mem.head _ | refine List.Mem.tail _ ?_)) (by rfl))) ?_
      refine AO.opG rfl rfl rfl (fun hp => OpW.force 56 rfl (by exact hp) (O.lenR rfl rfl)) ?_
      refine AO.opG rfl rfl rfl (fun hp => OpW.force 57 rfl (by exact hp) (O.gtr rfl rfl rfl (by rfl))) ?_
      refine AO.op (O.pickAnd rfl rfl rfl rfl (fun h => by exact h)) rfl rfl rfl ?_
      refine AO.op (O.move rfl rfl) rfl rfl rfl ?_
      refine AO.opG rfl rfl rfl (fun hp => O.fieldAddr rfl rfl) ?_
      refine AO.opG rfl rfl rfl (fun hp => OpW.force 61 rfl (by exact hp) (O.load rfl rfl (by repeat (first | exact List.Mem.head _ | refine List.Mem.tail _ ?_)) (by rfl))) ?_
      (refine AO.opG rfl rfl rfl (fun hp => OpW.force 62 rfl (by exact hp) (O.idxR rfl rfl rfl ⟨(by omega), (by (simp only [cond_true, cond_false, Bool.not_eq_true', Bool.not_eq_false', Bool.and_eq_true, Bool.or_eq_true, Bool.or_eq_false_iff, Bool.and_eq_false_imp, decide_eq_true_eq, decide_eq_false_iff_not, beq_iff_eq, bne_iff_ne, bne_eq_false_iff_eq, ne_eq] at hp; omega))⟩)) ?_)
      (refine AO.opG rfl rfl rfl (fun hp => OpW.force 63 rfl (by exact hp) (O.loadR rfl rfl (by exact bt_at (k := 0) (by (simp only [cond_true, cond_false, Bool.not_eq_true', Bool.not_eq_false', Bool.and_eq_true, Bool.or_eq_true, Bool.or_eq_false_iff, Bool.and_eq_false_imp, decide_eq_true_eq, decide_eq_false_iff_not, beq_iff_eq, bne_iff_ne, bne_eq_false_iff_eq, ne_eq] at hp; omega)) rfl))) ?_)
      refine AO.opG rfl rfl rfl (fun hp => OpW.force 64 rfl (by exact hp) (O.neq rfl rfl rfl (by rfl))) ?_
      refine AO.op (O.pickAnd rfl rfl rfl rfl (fun h => by exact h)) rfl rfl rfl ?_
      refine AO.nil ?_
      refine AQ.thenN ?_
      refine AW.split rfl (fun h3 => ?_) (fun h3 => ?_) <;> (try simp only [decide_eq_true_eq, decide_eq_false_iff_not, beq_iff_eq, beq_eq_false_iff_ne, bne_iff_ne, bne_eq_false_iff_eq, Bool.not_eq_true', Bool.not_eq_false', Bool.not_eq_true, Bool.not_eq_false, ne_eq, Int.not_lt, Int.not_le, Bool.and_eq_true, Bool.or_eq_true, Bool.or_eq_false_iff, Bool.and_eq_false_imp, strOf_toList, Decidable.not_not] at h3)
      · skip
        obtain ⟨⟨rfl, h4⟩, h5⟩ := h3
        obtain ⟨h0, r9, rfl⟩ : ∃ h0 r9, r = h0 :: r9 := by
          cases r with
          | nil => simp at h4
          | cons h0 r9 => exact ⟨h0, r9, rfl⟩
        have u4 := u8_lt h0
        have ea : takeP (h0 :: r9) false 1 = ([h0], r9, false) := by rw [takeP, if_neg (by simp; omega)]; rfl
        obtain ⟨v1, r1, b1, e1⟩ : ∃ v1 r1 b1, numP r9 false ((h0.toNat : Int) / 16) = (v1, r1, b1) := ⟨_, _, _, rfl⟩
        obtain ⟨v2, r2, b2, e2⟩ : ∃ v2 r2 b2, numP r1 b1 ((h0.toNat : Int) % 16) = (v2, r2, b2) := ⟨_, _, _, rfl⟩
        obtain ⟨y, r3, b3, e3⟩ : ∃ y r3 b3, takeP r2 b2 v2 = (y, r3, b3) := ⟨_, _, _, rfl⟩
        have q1 := numP_le r9 false (n := (h0.toNat : Int) / 16) (by omega)
        have q2 := numP_le r1 b1 (n := (h0.toNat : Int) % 16) (by omega)
        rw [e1] at q1
        rw [e2] at q2
        simp only at q1 q2
        have q3 := takeP_len r2 b2 v2 (by omega)
        rw [e3] at q3
        simp only at q3
        simp only [List.length_cons] at hn
        have hf2 : Fits b (opts ++ [⟨last + v1, y⟩]) (last + v1) r3 b3 := hf.step (by simp) (fun e => h5 (by rw [e]; rfl)) e1 e2 e3
        have hsc : optsA (opts ++ [⟨last + v1, y⟩]) = optsA opts ++ [.val (.int .i64 (last + v1)), roB y] := optsA_snoc _ _
        refine AW.skip ?_
        refine AQ.thenN ?_
        refine AW.block ?_
        refine AW.seq ?_
        refine AW.region ?_
        (refine AO.callM1 (i := 1) rfl rfl Try.func61 rfl rfl rfl rfl rfl rfl (take_of ea (by omega)) (by (dsimp only [List.set, List.append, List.cons_append, List.nil_append, roB_cells, roI_cells, roO_cells, splice, ofConst, AV.cells, List.map, List.map_cons, List.map_nil, List.take, List.drop, Nat.zero_add, Nat.add_zero, Nat.reduceAdd, Nat.reduceMul, Nat.zero_mul, Value.cells, List.toList_toArray, zerosA, List.replicate, List.flatten, List.append_nil]; done)) ?_)
        (refine AO.op (O.idxR rfl rfl rfl ⟨(by omega), (by (simp only [List.length_take, List.length_drop, List.length_append, List.length_cons, List.length_nil, List.length_set, Nat.zero_add]; omega))⟩) rfl rfl rfl ?_)
        refine AO.op (O.loadR rfl rfl (by rfl)) rfl rfl rfl ?_
        refine AO.op (O.assign rfl rfl) rfl rfl rfl ?_
        refine AO.nil ?_
        refine AQ.thenN ?_
        refine AW.seq ?_
        refine AW.region ?_
        refine AO.op (O.move rfl rfl) rfl rfl rfl ?_
        refine AO.op (O.move rfl rfl) rfl rfl rfl ?_
        refine AO.op (O.shrK 4 16 rfl rfl rfl rfl (by rfl)) rfl rfl rfl ?_
        (refine AO.callM1 (i := 1) rfl rfl Try.func62 rfl rfl rfl rfl rfl rfl (pnumber_of e1 (by omega)) (by (dsimp only [List.set, List.append, List.cons_append, List.nil_append, roB_cells, roI_cells, roO_cells, splice, ofConst, AV.cells, List.map, List.map_cons, List.map_nil, List.take, List.drop, Nat.zero_add, Nat.add_zero, Nat.reduceAdd, Nat.reduceMul, Nat.zero_mul, Value.cells, List.toList_toArray, zerosA, List.replicate, List.flatten, List.append_nil]; done)) ?_)
        refine AO.op (O.add rfl rfl rfl (by exact wI64 (by omega))) rfl rfl rfl ?_
        refine AO.op (O.assign rfl rfl) rfl rfl rfl ?_
        refine AO.nil ?_
        refine AQ.thenN ?_
        refine AW.seq ?_
        refine AW.region ?_
        refine AO.op (O.move rfl rfl) rfl rfl rfl ?_
        refine AO.op (O.and_ rfl rfl rfl (andU8 4 (by decide) (by decide) (m := 16) (by decide) (by omega))) rfl rfl rfl ?_
        (refine AO.callM1 (i := 1) rfl rfl Try.func62 rfl rfl rfl rfl rfl rfl (pnumber_of e2 (by omega)) (by (dsimp only [List.set, List.append, List.cons_append, List.nil_append, roB_cells, roI_cells, roO_cells, splice, ofConst, AV.cells, List.map, List.map_cons, List.map_nil, List.take, List.drop, Nat.zero_add, Nat.add_zero, Nat.reduceAdd, Nat.reduceMul, Nat.zero_mul, Value.cells, List.toList_toArray, zerosA, List.replicate, List.flatten, List.append_nil]; done)) ?_)
        refine AO.op (O.assign rfl rfl) rfl rfl rfl ?_
        refine AO.nil ?_
        refine AQ.thenN ?_
        refine AW.regionS [[(0, false), (1, false), (2, false), (3, false), (4, true), (5, false), (6, false), (7, false)], [(8, true)], [(9, false)], [(10, true)]] (by kernel_rfl) (by kernel_rfl) ?_
        refine AMS.go (by exact (by exact splitBlk 5 1 rfl rfl splitNil)) ?_
        try dsimp only [List.eraseIdx]
        refine AM.op rfl (O.fieldAddr rfl rfl) rfl rfl rfl ?_
        refine AM.op rfl (O.load rfl rfl (by repeat (first | exact List.Mem.head _ | refine List.Mem.tail _ ?_)) (by rfl)) rfl rfl rfl ?_
        refine AM.op rfl (O.move rfl rfl) rfl rfl rfl ?_
        refine AM.op rfl (O.move rfl rfl) rfl rfl rfl ?_
        refine AM.main _ rfl (fun w0 R0 => ?_)
        (refine AO.callM1 (i := 0) rfl rfl Try.func61 rfl rfl rfl rfl rfl rfl (take_of e3 (by omega)) (by (dsimp only [List.set, List.append, List.cons_append, List.nil_append, roB_cells, roI_cells, roO_cells, splice, ofConst, AV.cells, List.map, List.map_cons, List.map_nil, List.take, List.drop, Nat.zero_add, Nat.add_zero, Nat.reduceAdd, Nat.reduceMul, Nat.zero_mul, Value.cells, List.toList_toArray, zerosA, List.replicate, List.flatten, List.append_nil]; done)) ?_)
        refine AM.ok ?_
        dsimp only [putE]
        refine AM.op rfl (O.call rfl Try.func52 rfl rfl rfl (clone_fn _ (by omega))) rfl rfl rfl ?_
        refine AM.op rfl (O.build rfl rfl rfl (by rfl)) rfl rfl rfl ?_
        refine AM.op rfl (OpW.frz (O.buildSlice rfl rfl rfl (by rfl) (by rfl) (by rfl) (by rfl)) (by (unfold maxLen; omega))) rfl rfl rfl ?_
        refine AM.nil ?_
        try dsimp only [List.cons_append, List.nil_append]
        refine AMS.go (by exact (splitAt' 1 rfl splitNil)) ?_
        try dsimp only [List.eraseIdx]
        refine AM.main _ rfl (fun w0 R0 => ?_)
        (refine AO.append' (i := 0) rfl rfl rfl rfl (by rfl) (by rfl) rfl rfl rfl (by exact SrcA.ro TyD.ax (by rfl) (Nat.le_of_ble_eq_true rfl)) (by rfl) (by (unfold maxLen; omega)) (by omega) (by (dsimp only [List.set, List.append, List.cons_append, List.nil_append, roB_cells, roI_cells, roO_cells, splice, ofConst, AV.cells, List.map, List.map_cons, List.map_nil, List.take, List.drop, Nat.zero_add, Nat.add_zero, Nat.reduceAdd, Nat.reduceMul, Nat.zero_mul, Value.cells, List.toList_toArray, zerosA, List.replicate, List.flatten, List.append_nil]; done)) (fun _ => by (dsimp only [List.set]; done)) ?_)
        intro V4 hV4
        refine AM.ok ?_
        dsimp only [putE]
        refine AM.nil ?_
        try dsimp only [List.cons_append, List.nil_append]
        refine AMS.go (by exact splitNil) ?_
        try dsimp only [List.eraseIdx]
        refine AM.op rfl (O.fieldAddr rfl rfl) rfl rfl rfl ?_
        refine AM.nil ?_
        try dsimp only [List.cons_append, List.nil_append]
        refine AMS.go (by exact (splitAt' 2 rfl splitNil)) ?_
        try dsimp only [List.eraseIdx]
        refine AM.main _ rfl (fun w0 R0 => ?_)
        (refine AO.store (i := 0) rfl rfl rfl rfl rfl rfl (by (simp [AV.cells, AV.one, *]; done)) (by rfl) (by rfl) (by (dsimp only [List.set, List.append, List.cons_append, List.nil_append, roB_cells, roI_cells, roO_cells, splice, ofConst, AV.cells, List.map, List.map_cons, List.map_nil, List.take, List.drop, Nat.zero_add, Nat.add_zero, Nat.reduceAdd, Nat.reduceMul, Nat.zero_mul, Value.cells, List.toList_toArray, zerosA, List.replicate, List.flatten, List.append_nil]; done)) (by (dsimp only [List.set, List.append, List.cons_append, List.nil_append, roB_cells, roI_cells, roO_cells, splice, ofConst, AV.cells, List.map, List.map_cons, List.map_nil, List.take, List.drop, Nat.zero_add, Nat.add_zero, Nat.reduceAdd, Nat.reduceMul, Nat.zero_mul, Value.cells, List.toList_toArray, zerosA, List.replicate, List.flatten, List.append_nil]; done)) ?_)
        refine AM.okN ?_
        dsimp only [putE]
        refine AM.nil ?_
        try dsimp only [List.cons_append, List.nil_append]
        refine AMS.nil ?_
        refine AQ.blockN ?_
        refine AQ.loopKN _ _ _ (by simp; omega) (⟨opts ++ [⟨last + v1, y⟩], last + v1, r3, b3, _, hf2, by simp; omega, by simp; omega, ‹_›, rfl, rfl, by rw [hsc, List.length_append]⟩) (by repeat (first | exact envNil | refine envCons rfl ?_)) (by repeat (first | exact envNil | refine envCons rfl ?_)) (by repeat (first | exact subPnil | refine subPcons 0 rfl ?_ | refine subPcons 1 rfl ?_))
      · skip
        have hend : bad = true ∨ r = [] ∨ bt r 0 = 255 := by
          cases bad with
          | true => exact .inl rfl
          | false =>
            cases r with
            | nil => exact .inr (.inl rfl)
            | cons h0 r9 => exact .inr (.inr (u8_eq.1 (h3 ⟨rfl, by simp⟩)))
        have hall := hf.all hx hend rfl rfl rfl rfl
        refine AW.g ?_
        refine G.freezeCell 0 1 4 rfl rfl rfl ?_
        refine AW.u ?_
        refine AW.g ?_
        refine G.coeCell 1 5 rfl rfl Coe.nil ?_
        refine AW.u ?_
        refine AW.exit ?_
        refine AQ.thenX ?_
        refine AQ.loopX ?_
        refine AQ.blockX rfl ?_
        refine AQ.thenN ?_
        refine AW.seq ?_
        refine AW.seq ?_
        refine AW.region ?_
        refine AO.op (O.fieldAddr rfl rfl) rfl rfl rfl ?_
        refine AO.op (O.load rfl rfl (by repeat (exact List.Mem.head _)) (by rfl)) rfl rfl rfl ?_
        refine AO.op (O.lenR rfl rfl) rfl rfl rfl ?_
        refine AO.op (O.gtr rfl rfl rfl (by rfl)) rfl rfl rfl ?_
        refine AO.nil ?_
        refine AQ.thenN ?_
        refine AW.joinK (True) [(0, _), (2, _), (4, _), (5, _)] [] [prs B3 r bad, .blk B2 29 6 [.val (.int .i64 (((bt b 0).toNat : Int) / 16 % 4)), .val (.int .i64 ((bt b 1).toNat : Int)), .val (.int .i64 (((bt b 2).toNat : Int) * 256 + ((bt b 3).toNat : Int))), roB x, roO opts, roB (r.drop 1)], .blk B1 29 6 [.val (.int .i64 0), .val (.int .i64 0), .val (.int .i64 0), .val (.slice none 0 0), .val (.slice none 0 0), .val (.slice none 0 0)]] rfl (by repeat (first | exact envNil | refine envCons rfl ?_)) (fun hb => ?_) (fun hb => ?_) (fun hj => ?_) <;> try (try simp only [decide_eq_true_eq, decide_eq_false_iff_not, beq_iff_eq, beq_eq_false_iff_ne, bne_iff_ne, bne_eq_false_iff_eq, Bool.not_eq_true', Bool.not_eq_false', Bool.not_eq_true, Bool.not_eq_false, ne_eq, Int.not_lt, Int.not_le, Bool.and_eq_true, Bool.or_eq_true, Bool.or_eq_false_iff, Bool.and_eq_false_imp, strOf_toList, Decidable.not_not] at hb)
        · skip
          have hb' := hb
          refine AW.region ?_
          refine AO.op (O.fieldAddr rfl rfl) rfl rfl rfl ?_
          refine AO.op (O.load rfl rfl (by repeat (exact List.Mem.head _)) (by rfl)) rfl rfl rfl ?_
          refine AO.op (O.sliceFromB (k := 1) rfl rfl rfl (by rfl) (by omega)) rfl rfl rfl ?_
          (refine AO.op (O.call rfl Try.func52 rfl rfl rfl (clone_fn _ (by (simp; omega)))) rfl rfl rfl ?_)
          refine AO.op (O.fieldAddr rfl rfl) rfl rfl rfl ?_
          (refine AO.store (i := 1) rfl rfl rfl rfl rfl rfl (by rfl) (by rfl) (by rfl) (by (dsimp only [List.set, List.append, List.cons_append, List.nil_append, roB_cells, roI_cells, roO_cells, splice, ofConst, AV.cells, List.map, List.map_cons, List.map_nil, List.take, List.drop, Nat.zero_add, Nat.add_zero, Nat.reduceAdd, Nat.reduceMul, Nat.zero_mul, Value.cells, List.toList_toArray, zerosA, List.replicate, List.flatten, List.append_nil]; done)) (by (dsimp only [List.set, List.append, List.cons_append, List.nil_append, roB_cells, roI_cells, roO_cells, splice, ofConst, AV.cells, List.map, List.map_cons, List.map_nil, List.take, List.drop, Nat.zero_add, Nat.add_zero, Nat.reduceAdd, Nat.reduceMul, Nat.zero_mul, Value.cells, List.toList_toArray, zerosA, List.replicate, List.flatten, List.append_nil]; done)) ?_)
          refine AO.nil ?_
          refine AQ.midK (trivial) (by repeat (first | exact envNil | refine envCons rfl ?_)) (by repeat (exact envNil)) (by repeat (first | exact subPnil | refine subPcons 0 rfl ?_))
        · skip
          have hb' := hb
          obtain rfl : r = [] := List.eq_nil_of_length_eq_zero (by omega)
          refine AW.skip ?_
          refine AQ.midK (trivial) (by repeat (first | exact envNil | refine envCons rfl ?_)) (by repeat (exact envNil)) (by repeat (first | exact subPnil | refine subPcons 0 rfl ?_))
        · dsimp only [List.cons_append, List.nil_append]
          refine AQ.thenN ?_
          refine AW.seq ?_
          refine AW.seq ?_
          refine AW.region ?_
          refine AO.op (O.fieldAddr rfl rfl) rfl rfl rfl ?_
          refine AO.op (O.load rfl rfl (by repeat (exact List.Mem.head _)) (by rfl)) rfl rfl rfl ?_
          refine AO.op (O.move rfl rfl) rfl rfl rfl ?_
          (refine AO.opG rfl rfl rfl (fun hp => O.loadK rfl rfl (by repeat (first | exact List.Mem.head _ | refine List.Mem.tail _ ?_)) (by (dsimp only [List.set, List.append, List.cons_append, List.nil_append, roB_cells, roI_cells, roO_cells, splice, ofConst, AV.cells, List.map, List.map_cons, List.map_nil, List.take, List.drop, Nat.zero_add, Nat.add_zero, Nat.reduceAdd, Nat.reduceMul, Nat.zero_mul, Value.cells, List.toList_toArray, zerosA, List.replicate, List.flatten, List.append_nil]; done)) (by rfl)) ?_)
          refine AO.opG rfl rfl rfl (fun hp => OpW.force 100 rfl (by exact hp) (O.call rfl Try.func57 rfl rfl rfl (sound_fn (decM b x opts r)))) ?_
          refine AO.opG rfl rfl rfl (fun hp => OpW.force 101 rfl (by exact hp) (O.not rfl rfl (by rfl))) ?_
          refine AO.op (O.pickOr rfl rfl rfl rfl (fun h => by exact congrArg (fun b => !b) h)) rfl rfl rfl ?_
          refine AO.op (O.move rfl rfl) rfl rfl rfl ?_
          (refine AO.opG rfl rfl rfl (fun hp => O.loadK rfl rfl (by repeat (first | exact List.Mem.head _ | refine List.Mem.tail _ ?_)) (by (dsimp only [List.set, List.append, List.cons_append, List.nil_append, roB_cells, roI_cells, roO_cells, splice, ofConst, AV.cells, List.map, List.map_cons, List.map_nil, List.take, List.drop, Nat.zero_add, Nat.add_zero, Nat.reduceAdd, Nat.reduceMul, Nat.zero_mul, Value.cells, List.toList_toArray, zerosA, List.replicate, List.flatten, List.append_nil]; done)) (by rfl)) ?_)
          (refine AO.opG rfl rfl rfl (fun hp => OpW.force 105 rfl (by exact hp) (O.call rfl Try.func58 rfl rfl rfl (encode_fn (decM b x opts r) (by have := hp; simp at this; exact this.2)))) ?_)
          refine AO.opG rfl rfl rfl (fun hp => O.move rfl rfl) ?_
          refine AO.opG rfl rfl rfl (fun hp => OpW.force 106 rfl (by exact hp) (OpW.force 107 rfl (by exact hp) (O.call rfl Try.func63 rfl rfl rfl (equal_fn _ _)))) ?_
          refine AO.opG rfl rfl rfl (fun hp => OpW.force 108 rfl (by exact hp) (O.not rfl rfl (by rfl))) ?_
          refine AO.op (O.pickOr rfl rfl rfl rfl (fun h => by exact congrArg (fun b => !b) h)) rfl rfl rfl ?_
          refine AO.nil ?_
          refine AQ.thenN ?_
          refine AW.split rfl (fun h6 => ?_) (fun h6 => ?_) <;> (try simp only [decide_eq_true_eq, decide_eq_false_iff_not, beq_iff_eq, beq_eq_false_iff_ne, bne_iff_ne, bne_eq_false_iff_eq, Bool.not_eq_true', Bool.not_eq_false', Bool.not_eq_true, Bool.not_eq_false, ne_eq, Int.not_lt, Int.not_le, Bool.and_eq_true, Bool.or_eq_true, Bool.or_eq_false_iff, Bool.and_eq_false_imp, strOf_toList, Decidable.not_not] at h6)
          · skip
            have e : decS b = (Msg.none, 4) := decS_no (by omega) (by omega) fun m hm hr => by
              obtain ⟨g1, g2⟩ := hall m hm hr
              subst g2
              rcases h6 with (h6 | h6) | h6
              · rw [g1] at h6; cases h6
              · exact h6 hm
              · exact h6 hr
            refine AW.seq ?_
            refine AW.region ?_
            refine AO.op (O.build rfl rfl rfl (by rfl)) rfl rfl rfl ?_
            (refine AO.store (i := 2) rfl rfl rfl rfl rfl rfl (by rfl) (by rfl) (by rfl) (by (dsimp only [List.set, List.append, List.cons_append, List.nil_append, roB_cells, roI_cells, roO_cells, splice, ofConst, AV.cells, List.map, List.map_cons, List.map_nil, List.take, List.drop, Nat.zero_add, Nat.add_zero, Nat.reduceAdd, Nat.reduceMul, Nat.zero_mul, Value.cells, List.toList_toArray, zerosA, List.replicate, List.flatten, List.append_nil]; done)) (by (dsimp only [List.set, List.append, List.cons_append, List.nil_append, roB_cells, roI_cells, roO_cells, splice, ofConst, AV.cells, List.map, List.map_cons, List.map_nil, List.take, List.drop, Nat.zero_add, Nat.add_zero, Nat.reduceAdd, Nat.reduceMul, Nat.zero_mul, Value.cells, List.toList_toArray, zerosA, List.replicate, List.flatten, List.append_nil]; done)) ?_)
            refine AO.op (O.assign rfl rfl) rfl rfl rfl ?_
            refine AO.nil ?_
            refine AQ.thenN ?_
            refine AW.ret ?_
            refine AQ.thenR ?_
            refine FnQ.coe (AQ.retCT rfl rfl rfl (by repeat (first | exact List.Mem.head _ | refine List.Mem.tail _ ?_)) (by (dsimp only [List.set, List.append, List.cons_append, List.nil_append, roB_cells, roI_cells, roO_cells, splice, ofConst, AV.cells, List.map, List.map_cons, List.map_nil, List.take, List.drop, Nat.zero_add, Nat.add_zero, Nat.reduceAdd, Nat.reduceMul, Nat.zero_mul, Value.cells, List.toList_toArray, zerosA, List.replicate, List.flatten, List.append_nil]; done)) (by rfl) ⟨_, List.nil_sublist _, .nil⟩ ⟨rfl, rfl⟩) (Coe.tup (by (repeat (first | exact CoeL.nil | refine CoeL.cons Coe.rfl ?_ | refine CoeL.cons Coe.nil ?_ | refine CoeL.cons (Coe.agg ?_) ?_)); done)) (retM e rfl)
          · skip
            have e : decS b = (decM b x opts r, 0) := decS_yes (by omega) (by omega) h6.1.2 h6.2 fun m hm hr => (hall m hm hr).2
            refine AW.skip ?_
            refine AQ.thenN ?_
            refine AW.seq ?_
            refine AW.region ?_
            (refine AO.op (O.loadK rfl rfl (by repeat (first | exact List.Mem.head _ | refine List.Mem.tail _ ?_)) (by (dsimp only [List.set, List.append, List.cons_append, List.nil_append, roB_cells, roI_cells, roO_cells, splice, ofConst, AV.cells, List.map, List.map_cons, List.map_nil, List.take, List.drop, Nat.zero_add, Nat.add_zero, Nat.reduceAdd, Nat.reduceMul, Nat.zero_mul, Value.cells, List.toList_toArray, zerosA, List.replicate, List.flatten, List.append_nil]; done)) (by rfl)) rfl rfl rfl ?_)
            (refine AO.store (i := 2) rfl rfl rfl rfl rfl rfl (by rfl) (by rfl) (by rfl) (by (dsimp only [List.set, List.append, List.cons_append, List.nil_append, roB_cells, roI_cells, roO_cells, splice, ofConst, AV.cells, List.map, List.map_cons, List.map_nil, List.take, List.drop, Nat.zero_add, Nat.add_zero, Nat.reduceAdd, Nat.reduceMul, Nat.zero_mul, Value.cells, List.toList_toArray, zerosA, List.replicate, List.flatten, List.append_nil]; done)) (by (dsimp only [List.set, List.append, List.cons_append, List.nil_append, roB_cells, roI_cells, roO_cells, splice, ofConst, AV.cells, List.map, List.map_cons, List.map_nil, List.take, List.drop, Nat.zero_add, Nat.add_zero, Nat.reduceAdd, Nat.reduceMul, Nat.zero_mul, Value.cells, List.toList_toArray, zerosA, List.replicate, List.flatten, List.append_nil]; done)) ?_)
            refine AO.op (O.assign rfl rfl) rfl rfl rfl ?_
            refine AO.nil ?_
            refine AQ.thenN ?_
            refine AW.ret ?_
            refine FnQ.coe (AQ.retCT rfl rfl rfl (by repeat (first | exact List.Mem.head _ | refine List.Mem.tail _ ?_)) (by (dsimp only [List.set, List.append, List.cons_append, List.nil_append, roB_cells, roI_cells, roO_cells, splice, ofConst, AV.cells, List.map, List.map_cons, List.map_nil, List.take, List.drop, Nat.zero_add, Nat.add_zero, Nat.reduceAdd, Nat.reduceMul, Nat.zero_mul, Value.cells, List.toList_toArray, zerosA, List.replicate, List.flatten, List.append_nil]; done)) (by rfl) ⟨_, List.nil_sublist _, .nil⟩ ⟨rfl, rfl⟩) (Coe.tup (by (repeat (first | exact CoeL.nil | refine CoeL.cons Coe.rfl ?_)); done)) (retM e rfl)
end Go.Proofs.Ytbmndjjaaeambaa.By

namespace Go.Proofs.Ytbmndjjaaeambaa.By
open Go.RowKit L A Dk
set_option linter.unusedVariables false
set_option linter.unusedSimpArgs false
attribute [local irreducible] AW AQ AO

def numR (b : List UInt8) (n : Int) (i : Nat) : Int × Nat :=
  if n < 13 then (n, i) else if n = 13 ∧ i < b.length then (13 + ((bt b i).toNat : Int), i + 1)
  else if n = 14 ∧ i + 1 < b.length then (269 + ((bt b i).toNat : Int) * 256 + ((bt b (i + 1)).toNat : Int), i + 2) else (-1, i)
end Go.Proofs.Ytbmndjjaaeambaa.By

namespace Go.Proofs.Ytbmndjjaaeambaa.By
open Go.RowKit L A Dk
set_option linter.unusedVariables false
set_option linter.unusedSimpArgs false
attribute [local irreducible] AW AQ AO
end Go.Proofs.Ytbmndjjaaeambaa.By

namespace Go.Proofs.Ytbmndjjaaeambaa.By
open Go.RowKit L A
set_option linter.unusedVariables false
set_option linter.unusedSimpArgs false
attribute [local irreducible] AW AQ AO
def pkM (m : Msg) : Msg := ⟨0, m.code, 0, [], m.opts, m.pay⟩
def packR (m : Msg) : List UInt8 × Int :=
  if rq m.code = true ∨ rs m.code = true then (if (encR (pkM m)).2 = 0 then (u8 m.code :: (encR (pkM m)).1.drop 4, 0) else ([], (encR (pkM m)).2)) else ([], 1)
abbrev resP (r : List UInt8 × Int) : AV := .tup [roB r.1, .val (.int .i64 r.2)]
theorem retP {r : List UInt8 × Int} {a : List UInt8} {e : Int} (h : r = (a, e)) : Is (resP r) (.tup [roB a, .val (.int .i64 e)]) [] := by rw [h]; exact ⟨rfl, rfl⟩
def unB (b : List UInt8) : List UInt8 := 64 :: bt b 0 :: 0 :: 0 :: b.drop 1
noncomputable def unpackR (b : List UInt8) : Msg × Int :=
  if b = [] then (Msg.none, 2) else if rq ((bt b 0).toNat : Int) = true ∨ rs ((bt b 0).toNat : Int) = true then decS (unB b) else (Msg.none, 4)
theorem ret2M' {r : Msg × Int} {a : Msg} {e : Int} (h : r = (a, e)) : Is (resM r) (.tup [aggM a, .val (.int .i64 e)]) [] := by rw [h]; exact ⟨rfl, rfl⟩
theorem raw_len4 (m : Msg) : 4 ≤ (raw m).length := by simp only [raw, headM, List.length_append, List.length_cons, List.length_nil]; omega
theorem encR_len4 {m : Msg} (h : (encR m).2 = 0) : 4 ≤ (encR m).1.length ∧ (encR m).1.length ≤ 4096 := by
  by_cases hv : ValM m
  · rw [encR_t hv]; exact ⟨raw_len4 m, by have := hv.2; simp only; omega⟩
  · rw [encR_f hv] at h; cases h
set_option maxHeartbeats 4000000 in
theorem pack_fn (m : Msg) : Sp Try.prog 28 [aggM m] [] (Is (resP (packR m))) := by
  refine Sp.enter Try.func28 rfl _ Try.ntmps28 rfl (fun w0 R0 => ?_)
  refine AW.seq ?_
  refine AW.region ?_
  refine AO.opB (O.box rfl rfl rfl rfl rfl) rfl rfl rfl ?_
  intro B1
  refine AO.op (O.assign rfl rfl) rfl rfl rfl ?_
  refine AO.op (O.assign rfl rfl) rfl rfl rfl ?_
  refine AO.nil ?_
  refine AQ.thenN ?_
  refine AW.seq ?_
  refine AW.seq ?_
  refine AW.region ?_
  refine AO.op (O.fieldAddr rfl rfl) rfl rfl rfl ?_
  refine AO.op (O.load rfl rfl (by repeat (exact List.Mem.head _)) (by rfl)) rfl rfl rfl ?_
  refine AO.op (O.call rfl Try.func42 rfl rfl rfl (sreq_fn m.code)) rfl rfl rfl ?_
  refine AO.op (O.not rfl rfl (by rfl)) rfl rfl rfl ?_
  refine AO.op (O.move rfl rfl) rfl rfl rfl ?_
  refine AO.opG rfl rfl rfl (fun hp => O.fieldAddr rfl rfl) ?_
  refine AO.opG rfl rfl rfl (fun hp => OpW.force 11 rfl (by exact hp) (O.load rfl rfl (by repeat (exact List.Mem.head _)) (by rfl))) ?_
  refine AO.opG rfl rfl rfl (fun hp => OpW.force 12 rfl (by exact hp) (O.call rfl Try.func43 rfl rfl rfl (sresp_fn m.code))) ?_
  refine AO.opG rfl rfl rfl (fun hp => OpW.force 13 rfl (by exact hp) (O.not rfl rfl (by rfl))) ?_
  refine AO.op (O.pickAnd rfl rfl rfl rfl (fun h => by exact h)) rfl rfl rfl ?_
  refine AO.nil ?_
  refine AQ.thenN ?_
  refine AW.split rfl (fun h => ?_) (fun h => ?_) <;> (try simp only [decide_eq_true_eq, decide_eq_false_iff_not, beq_iff_eq, beq_eq_false_iff_ne, bne_iff_ne, bne_eq_false_iff_eq, Bool.not_eq_true', Bool.not_eq_false', Bool.not_eq_true, Bool.not_eq_false, ne_eq, Int.not_lt, Int.not_le, Bool.and_eq_true, Bool.or_eq_true, Bool.or_eq_false_iff, Bool.and_eq_false_imp, strOf_toList, Decidable.not_not] at h)
  · skip
    have e : packR m = ([], 1) := if_neg (by rw [h.1, h.2]; simp)
    refine AW.seq ?_
    refine AW.region ?_
    refine AO.op (O.assign rfl rfl) rfl rfl rfl ?_
    refine AO.op (O.assign rfl rfl) rfl rfl rfl ?_
    refine AO.nil ?_
    refine AQ.thenN ?_
    refine AW.ret ?_
    refine AQ.thenR ?_
    refine FnQ.coe (AQ.ret2 rfl rfl rfl ⟨_, List.nil_sublist _, .nil⟩ ⟨rfl, rfl⟩) (Coe.tup (by (repeat (first | exact CoeL.nil | refine CoeL.cons Coe.rfl ?_ | refine CoeL.cons Coe.nil ?_)); done)) (retP e)
  · skip
    have hc : rq m.code = true ∨ rs m.code = true := by cases hq : rq m.code <;> simp_all
    refine AW.skip ?_
    refine AQ.thenN ?_
    refine AW.seq ?_
    refine AW.region ?_
    refine AO.op (O.fieldAddr rfl rfl) rfl rfl rfl ?_
    refine AO.op (O.load rfl rfl (by repeat (exact List.Mem.head _)) (by rfl)) rfl rfl rfl ?_
    refine AO.op (O.fieldAddr rfl rfl) rfl rfl rfl ?_
    refine AO.op (O.load rfl rfl (by repeat (exact List.Mem.head _)) (by rfl)) rfl rfl rfl ?_
    refine AO.op (O.fieldAddr rfl rfl) rfl rfl rfl ?_
    refine AO.op (O.load rfl rfl (by repeat (exact List.Mem.head _)) (by rfl)) rfl rfl rfl ?_
    refine AO.op (O.build rfl rfl rfl (by rfl)) rfl rfl rfl ?_
    (refine AO.op (O.callC rfl Try.func41 rfl rfl rfl (enc_fn (pkM m)) (by (repeat (first | exact CoeL.nil | refine CoeL.cons Coe.rfl ?_ | refine CoeL.cons Coe.nil ?_ | refine CoeL.cons (Coe.agg ?_) ?_)); done)) rfl rfl rfl ?_)
    refine AO.op (O.move rfl rfl) rfl rfl rfl ?_
    refine AO.op (O.extract rfl rfl rfl) rfl rfl rfl ?_
    refine AO.op (O.extract rfl rfl rfl) rfl rfl rfl ?_
    refine AO.op (O.assign rfl rfl) rfl rfl rfl ?_
    refine AO.op (O.assign rfl rfl) rfl rfl rfl ?_
    refine AO.nil ?_
    refine AQ.thenN ?_
    refine AW.seq ?_
    refine AW.seq ?_
    refine AW.region ?_
    refine AO.op (O.move rfl rfl) rfl rfl rfl ?_
    refine AO.op (O.neq rfl rfl rfl (by rfl)) rfl rfl rfl ?_
    refine AO.nil ?_
    refine AQ.thenN ?_
    refine AW.split rfl (fun h2 => ?_) (fun h2 => ?_) <;> (try simp only [decide_eq_true_eq, decide_eq_false_iff_not, beq_iff_eq, beq_eq_false_iff_ne, bne_iff_ne, bne_eq_false_iff_eq, Bool.not_eq_true', Bool.not_eq_false', Bool.not_eq_true, Bool.not_eq_false, ne_eq, Int.not_lt, Int.not_le, Bool.and_eq_true, Bool.or_eq_true, Bool.or_eq_false_iff, Bool.and_eq_false_imp, strOf_toList, Decidable.not_not] at h2)
    · skip
      have e : packR m = ([], (encR (pkM m)).2) := by rw [packR, if_pos hc, if_neg h2]
      refine AW.seq ?_
      refine AW.region ?_
      refine AO.op (O.move rfl rfl) rfl rfl rfl ?_
      refine AO.op (O.assign rfl rfl) rfl rfl rfl ?_
      refine AO.op (O.assign rfl rfl) rfl rfl rfl ?_
      refine AO.nil ?_
      refine AQ.thenN ?_
      refine AW.ret ?_
      refine AQ.thenR ?_
      refine FnQ.coe (AQ.ret2 rfl rfl rfl ⟨_, List.nil_sublist _, .nil⟩ ⟨rfl, rfl⟩) (Coe.tup (by (repeat (first | exact CoeL.nil | refine CoeL.cons Coe.rfl ?_ | refine CoeL.cons Coe.nil ?_)); done)) (retP e)
    · skip
      have hl := encR_len4 h2
      have e : packR m = (u8 m.code :: (encR (pkM m)).1.drop 4, 0) := by rw [packR, if_pos hc, if_pos h2]
      refine AW.skip ?_
      refine AQ.thenN ?_
      refine AW.seq ?_
      refine AW.regionD 6 (by kernel_rfl) (by kernel_rfl) ?_
      simp only [List.take_succ_cons, List.take_zero, List.drop_succ_cons, List.drop_zero]
      refine FA.op (O.fieldAddr rfl rfl) rfl rfl rfl rfl ?_
      refine FA.op (O.load rfl rfl (by repeat (exact List.Mem.head _)) (by rfl)) rfl rfl rfl rfl ?_
      refine FA.op (O.conv rfl rfl wU8any) rfl rfl rfl rfl ?_
      refine FA.opN (O.buildSlice rfl rfl rfl (by rfl) (by rfl) (by rfl) (by rfl)) rfl rfl rfl rfl ?_
      refine FA.op (O.move rfl rfl) rfl rfl rfl rfl ?_
      refine FA.op (O.sliceFromB (k := 4) rfl rfl rfl (by rfl) (by omega)) rfl rfl rfl rfl ?_
      refine FA.nil ?_
      simp only [chosen, List.nil_append, List.cons_append, List.append_nil]
      rintro _ _ ⟨B2, rfl, rfl⟩
      simp only [List.cons_append, List.nil_append]
      refine AO.g ?_
      refine G.closeRow (n := 1) (cap := 1) 0 rfl rfl rfl (Nat.le_refl _) (by (unfold maxLen; omega)) ?_
      refine AO.u ?_
      dsimp only [List.set]
      (refine AO.append' (i := 0) rfl rfl rfl rfl (by rfl) (by rfl) rfl rfl rfl (by exact SrcA.ro TyD.ax (by (simp; done)) (Nat.le_of_ble_eq_true rfl)) (by (simp [AV.cells, AV.one, *]; done)) (by (unfold maxLen; simp only [List.length_take, List.length_drop, List.length_append, List.length_cons, List.length_nil, List.length_set, Nat.zero_add]; omega)) (by (simp only [List.length_take, List.length_drop, List.length_append, List.length_cons, List.length_nil, List.length_set, Nat.zero_add]; omega)) (by (dsimp only [List.set, List.append, List.cons_append, List.nil_append, roB_cells, roI_cells, roO_cells, splice, ofConst, AV.cells, List.map, List.map_cons, List.map_nil, List.take, List.drop, Nat.zero_add, Nat.add_zero, Nat.reduceAdd, Nat.reduceMul, Nat.zero_mul, Value.cells, List.toList_toArray, zerosA, List.replicate, List.flatten, List.append_nil]; done)) (fun _ => by (dsimp only [List.set]; done)) ?_)
      intro V3 hV3
      refine AO.op (O.assign rfl rfl) rfl rfl rfl ?_
      refine AO.op (O.assign rfl rfl) rfl rfl rfl ?_
      refine AO.nil ?_
      refine AQ.thenN ?_
      refine AW.ret ?_
      refine AQ.g ?_
      refine G.freezeRow 0 rfl [2] (by repeat (first | exact frNil | refine frCons rfl ?_)) ?_
      refine AQ.u ?_
      try dsimp only [List.map, List.eraseIdx, List.cons_append, List.nil_append]
      refine AQ.g ?_
      refine G.re 2 (roB (u8 m.code :: (encR (pkM m)).1.drop 4)) (congrArg some (roB_of (by rw [List.length_cons]; omega) rfl)) ?_
      refine AQ.u ?_
      refine FnQ.coe (AQ.ret2 rfl rfl rfl ⟨_, List.nil_sublist _, .nil⟩ ⟨rfl, rfl⟩) (Coe.tup (by (repeat (first | exact CoeL.nil | refine CoeL.cons Coe.rfl ?_)); done)) (retP e)
theorem decode_ro {n : Nat} {xs : List AV} {l : List UInt8} (h1 : n = l.length) (h2 : xs = bytesA l) (hl : l.length ≤ 1000000) : Sp Try.prog 50 [.ro false n xs] [] (Is (resM (decS l))) := by
  subst h1; subst h2; exact decode_fn l hl
theorem unB_cells {b : List UInt8} (h : 0 < b.length) : bytesA (unB b) = [.val (.int .u8 64), .val (.int .u8 ((bt b 0).toNat : Int)), .val (.int .u8 0), .val (.int .u8 0)] ++ bytesA (b.drop 1) := rfl
theorem unB_len {b : List UInt8} (h : 0 < b.length) : (unB b).length = b.length + 3 := by unfold unB; simp; omega
theorem raw_head {m : Msg} {b : List UInt8} (hm : OkM m) (h : raw m = unB b) : m.ty = 0 ∧ m.id = 0 ∧ m.tok = [] := by
  obtain ⟨⟨a1, a2, -⟩, ⟨a3, a4, a5, -⟩, -⟩ := hm
  have h0 := congrArg (fun l => bt l 0) h
  have h2 := congrArg (fun l => bt l 2) h
  have h3 := congrArg (fun l => bt l 3) h
  have e0 : bt (raw m) 0 = u8 (64 + 16 * m.ty + m.tok.length) := rfl
  have e2 : bt (raw m) 2 = u8 (m.id / 256) := rfl
  have e3 : bt (raw m) 3 = u8 m.id := rfl
  have f0 : bt (unB b) 0 = 64 := rfl
  have f2 : bt (unB b) 2 = 0 := rfl
  have f3 : bt (unB b) 3 = 0 := rfl
  simp only [e0, e2, e3, f0, f2, f3] at h0 h2 h3
  have g0 := u8_small (x := 64 + 16 * m.ty + m.tok.length) (by omega)
  have g2 := u8_small (x := m.id / 256) (by omega)
  have g3 := u8_toNat m.id
  rw [h0] at g0
  rw [h2] at g2
  rw [h3] at g3
  have k0 : ((64 : UInt8).toNat : Int) = 64 := rfl
  have k2 : ((0 : UInt8).toNat : Int) = 0 := rfl
  rw [k0] at g0
  rw [k2] at g2 g3
  exact ⟨by omega, by omega, List.eq_nil_of_length_eq_zero (by omega)⟩
theorem decS_unB (b : List UInt8) (h : (decS (unB b)).2 = 0) : (decS (unB b)).1.ty = 0 ∧ (decS (unB b)).1.id = 0 ∧ (decS (unB b)).1.tok = [] := by
  have := decS_ok h
  exact raw_head this.1.1 this.2
set_option maxHeartbeats 4000000 in
theorem unpack_fn (b : List UInt8) (hb : b.length ≤ 900000) : Sp Try.prog 32 [roB b] [] (Is (resM (unpackR b))) := by
  refine Sp.enter Try.func32 rfl _ Try.ntmps32 rfl (fun w0 R0 => ?_)
  refine AW.seq ?_
  refine AW.region ?_
  refine AO.opB (O.alloc rfl (by (dsimp only [List.set, List.append, List.cons_append, List.nil_append, roB_cells, roI_cells, roO_cells, splice, ofConst, AV.cells, List.map, List.map_cons, List.map_nil, List.take, List.drop, Nat.zero_add, Nat.add_zero, Nat.reduceAdd, Nat.reduceMul, Nat.zero_mul, Value.cells, List.toList_toArray, zerosA, List.replicate, List.flatten, List.append_nil]; done)) (by rfl)) rfl rfl rfl ?_
  intro B1
  refine AO.op (O.assign rfl rfl) rfl rfl rfl ?_
  refine AO.nil ?_
  refine AQ.thenN ?_
  refine AW.seq ?_
  refine AW.seq ?_
  refine AW.region ?_
  refine AO.op (O.move rfl rfl) rfl rfl rfl ?_
  refine AO.op (O.lenR rfl rfl) rfl rfl rfl ?_
  refine AO.op (O.eql rfl rfl rfl (by rfl)) rfl rfl rfl ?_
  refine AO.nil ?_
  refine AQ.thenN ?_
  refine AW.split rfl (fun h => ?_) (fun h => ?_) <;> (try simp only [decide_eq_true_eq, decide_eq_false_iff_not, beq_iff_eq, beq_eq_false_iff_ne, bne_iff_ne, bne_eq_false_iff_eq, Bool.not_eq_true', Bool.not_eq_false', Bool.not_eq_true, Bool.not_eq_false, ne_eq, Int.not_lt, Int.not_le, Bool.and_eq_true, Bool.or_eq_true, Bool.or_eq_false_iff, Bool.and_eq_false_imp, strOf_toList, Decidable.not_not] at h)
  · skip
    have e : unpackR b = (Msg.none, 2) := if_pos (List.eq_nil_of_length_eq_zero (by omega))
    refine AW.seq ?_
    refine AW.region ?_
    refine AO.op (O.build rfl rfl rfl (by rfl)) rfl rfl rfl ?_
    (refine AO.store (i := 0) rfl rfl rfl rfl rfl rfl (by rfl) (by rfl) (by rfl) (by (dsimp only [List.set, List.append, List.cons_append, List.nil_append, roB_cells, roI_cells, roO_cells, splice, ofConst, AV.cells, List.map, List.map_cons, List.map_nil, List.take, List.drop, Nat.zero_add, Nat.add_zero, Nat.reduceAdd, Nat.reduceMul, Nat.zero_mul, Value.cells, List.toList_toArray, zerosA, List.replicate, List.flatten, List.append_nil]; done)) (by (dsimp only [List.set, List.append, List.cons_append, List.nil_append, roB_cells, roI_cells, roO_cells, splice, ofConst, AV.cells, List.map, List.map_cons, List.map_nil, List.take, List.drop, Nat.zero_add, Nat.add_zero, Nat.reduceAdd, Nat.reduceMul, Nat.zero_mul, Value.cells, List.toList_toArray, zerosA, List.replicate, List.flatten, List.append_nil]; done)) ?_)
    refine AO.op (O.assign rfl rfl) rfl rfl rfl ?_
    refine AO.nil ?_
    refine AQ.thenN ?_
    refine AW.ret ?_
    refine AQ.thenR ?_
    refine FnQ.coe (AQ.retCT rfl rfl rfl (by repeat (exact List.Mem.head _)) (by (dsimp only [List.set, List.append, List.cons_append, List.nil_append, roB_cells, roI_cells, roO_cells, splice, ofConst, AV.cells, List.map, List.map_cons, List.map_nil, List.take, List.drop, Nat.zero_add, Nat.add_zero, Nat.reduceAdd, Nat.reduceMul, Nat.zero_mul, Value.cells, List.toList_toArray, zerosA, List.replicate, List.flatten, List.append_nil]; done)) (by rfl) ⟨_, List.nil_sublist _, .nil⟩ ⟨rfl, rfl⟩) (Coe.tup (by (repeat (first | exact CoeL.nil | refine CoeL.cons Coe.rfl ?_ | refine CoeL.cons Coe.nil ?_ | refine CoeL.cons (Coe.agg ?_) ?_)); done)) (ret2M' e)
  · skip
    have hb0 : 0 < b.length := by omega
    have hbn : b ≠ [] := fun e => by rw [e] at hb0; cases hb0
    have hub := u8_lt (bt b 0)
    refine AW.skip ?_
    refine AQ.thenN ?_
    refine AW.seq ?_
    refine AW.seq ?_
    refine AW.region ?_
    refine AO.op (O.move rfl rfl) rfl rfl rfl ?_
    refine AO.op (O.idxR rfl rfl rfl ⟨(by omega), (by omega)⟩) rfl rfl rfl ?_
    refine AO.op (O.loadR rfl rfl (by exact bt_at (k := 0) hb0 rfl)) rfl rfl rfl ?_
    refine AO.op (O.conv rfl rfl (by exact wI64 (by omega))) rfl rfl rfl ?_
    refine AO.op (O.assign rfl rfl) rfl rfl rfl ?_
    refine AO.nil ?_
    refine AQ.thenN ?_
    refine AW.seq ?_
    refine AW.region ?_
    refine AO.op (O.move rfl rfl) rfl rfl rfl ?_
    refine AO.op (O.call rfl Try.func42 rfl rfl rfl (sreq_fn _)) rfl rfl rfl ?_
    refine AO.op (O.not rfl rfl (by rfl)) rfl rfl rfl ?_
    refine AO.op (O.move rfl rfl) rfl rfl rfl ?_
    refine AO.opG rfl rfl rfl (fun hp => O.move rfl rfl) ?_
    refine AO.opG rfl rfl rfl (fun hp => OpW.force 17 rfl (by exact hp) (O.call rfl Try.func43 rfl rfl rfl (sresp_fn _))) ?_
    refine AO.opG rfl rfl rfl (fun hp => OpW.force 18 rfl (by exact hp) (O.not rfl rfl (by rfl))) ?_
    refine AO.op (O.pickAnd rfl rfl rfl rfl (fun h => by exact h)) rfl rfl rfl ?_
    refine AO.nil ?_
    refine AQ.thenN ?_
    refine AW.split rfl (fun h2 => ?_) (fun h2 => ?_) <;> (try simp only [decide_eq_true_eq, decide_eq_false_iff_not, beq_iff_eq, beq_eq_false_iff_ne, bne_iff_ne, bne_eq_false_iff_eq, Bool.not_eq_true', Bool.not_eq_false', Bool.not_eq_true, Bool.not_eq_false, ne_eq, Int.not_lt, Int.not_le, Bool.and_eq_true, Bool.or_eq_true, Bool.or_eq_false_iff, Bool.and_eq_false_imp, strOf_toList, Decidable.not_not] at h2)
    · skip
      have e : unpackR b = (Msg.none, 4) := by rw [unpackR, if_neg hbn, if_neg (by rw [h2.1, h2.2]; simp)]
      refine AW.seq ?_
      refine AW.region ?_
      refine AO.op (O.build rfl rfl rfl (by rfl)) rfl rfl rfl ?_
      (refine AO.store (i := 0) rfl rfl rfl rfl rfl rfl (by rfl) (by rfl) (by rfl) (by (dsimp only [List.set, List.append, List.cons_append, List.nil_append, roB_cells, roI_cells, roO_cells, splice, ofConst, AV.cells, List.map, List.map_cons, List.map_nil, List.take, List.drop, Nat.zero_add, Nat.add_zero, Nat.reduceAdd, Nat.reduceMul, Nat.zero_mul, Value.cells, List.toList_toArray, zerosA, List.replicate, List.flatten, List.append_nil]; done)) (by (dsimp only [List.set, List.append, List.cons_append, List.nil_append, roB_cells, roI_cells, roO_cells, splice, ofConst, AV.cells, List.map, List.map_cons, List.map_nil, List.take, List.drop, Nat.zero_add, Nat.add_zero, Nat.reduceAdd, Nat.reduceMul, Nat.zero_mul, Value.cells, List.toList_toArray, zerosA, List.replicate, List.flatten, List.append_nil]; done)) ?_)
      refine AO.op (O.assign rfl rfl) rfl rfl rfl ?_
      refine AO.nil ?_
      refine AQ.thenN ?_
      refine AW.ret ?_
      refine AQ.thenR ?_
      refine FnQ.coe (AQ.retCT rfl rfl rfl (by repeat (exact List.Mem.head _)) (by (dsimp only [List.set, List.append, List.cons_append, List.nil_append, roB_cells, roI_cells, roO_cells, splice, ofConst, AV.cells, List.map, List.map_cons, List.map_nil, List.take, List.drop, Nat.zero_add, Nat.add_zero, Nat.reduceAdd, Nat.reduceMul, Nat.zero_mul, Value.cells, List.toList_toArray, zerosA, List.replicate, List.flatten, List.append_nil]; done)) (by rfl) ⟨_, List.nil_sublist _, .nil⟩ ⟨rfl, rfl⟩) (Coe.tup (by (repeat (first | exact CoeL.nil | refine CoeL.cons Coe.rfl ?_ | refine CoeL.cons Coe.nil ?_ | refine CoeL.cons (Coe.agg ?_) ?_)); done)) (ret2M' e)
    · skip
      have hc : rq ((bt b 0).toNat : Int) = true ∨ rs ((bt b 0).toNat : Int) = true := by cases hq : rq ((bt b 0).toNat : Int) <;> simp_all
      have e : unpackR b = ((decS (unB b)).1, (decS (unB b)).2) := by rw [unpackR, if_neg hbn, if_pos hc]
      refine AW.skip ?_
      refine AQ.thenN ?_
      refine AW.seq ?_
      refine AW.regionM [(0, false), (1, false), (2, false), (4, false), (5, false), (3, true), (6, true), (7, false), (8, false), (9, false), (10, true), (11, false)] (by kernel_rfl) (by kernel_rfl) (by exact (by exact splitBlk 2 0 rfl rfl splitNil)) ?_
      dsimp only [List.eraseIdx]
      refine AM.op rfl (O.move rfl rfl) rfl rfl rfl ?_
      refine AM.op rfl (O.idxR rfl rfl rfl ⟨(by omega), (by omega)⟩) rfl rfl rfl ?_
      refine AM.op rfl (O.loadR rfl rfl (by exact bt_at (k := 0) hb0 rfl)) rfl rfl rfl ?_
      refine AM.op rfl (O.move rfl rfl) rfl rfl rfl ?_
      refine AM.op rfl (O.sliceFromB (k := 1) rfl rfl rfl (by rfl) (by omega)) rfl rfl rfl ?_
      refine AM.main _ rfl (fun w0 R0 => ?_)
      refine AO.opB (O.buildSliceF rfl rfl rfl (by rfl) (by rfl) (by rfl) (by rfl) (by rfl)) rfl rfl rfl ?_
      intro B2
      refine AO.g ?_
      refine G.closeRow (b := B2) (n := 4) (cap := 4) 0 rfl rfl rfl (Nat.le_refl _) (by (unfold maxLen; omega)) ?_
      refine AO.u ?_
      dsimp only [List.set]
      refine AM.ok ?_
      dsimp only [putE]
      refine AM.main _ rfl (fun w0 R0 => ?_)
      (refine AO.append' (i := 0) rfl rfl rfl rfl (by rfl) (by rfl) rfl rfl rfl (by exact SrcA.ro TyD.ax (by (simp; done)) (Nat.le_of_ble_eq_true rfl)) (by (simp [AV.cells, AV.one, *]; done)) (by (unfold maxLen; simp only [List.length_take, List.length_drop, List.length_append, List.length_cons, List.length_nil, List.length_set, Nat.zero_add]; omega)) (by (simp only [List.length_take, List.length_drop, List.length_append, List.length_cons, List.length_nil, List.length_set, Nat.zero_add]; omega)) (by (dsimp only [List.set, List.append, List.cons_append, List.nil_append, roB_cells, roI_cells, roO_cells, splice, ofConst, AV.cells, List.map, List.map_cons, List.map_nil, List.take, List.drop, Nat.zero_add, Nat.add_zero, Nat.reduceAdd, Nat.reduceMul, Nat.zero_mul, Value.cells, List.toList_toArray, zerosA, List.replicate, List.flatten, List.append_nil]; done)) (fun _ => by (dsimp only [List.set]; done)) ?_)
      intro V3 hV3
      refine AO.g ?_
      refine G.freezeRow 0 rfl [28] (by repeat (first | exact frNil | refine frCons rfl ?_)) ?_
      refine AO.u ?_
      dsimp only [List.map, List.eraseIdx, List.cons_append, List.nil_append]
      refine AM.ok ?_
      dsimp only [putE]
      (refine AM.op rfl (O.call rfl Try.func50 rfl rfl rfl (decode_ro (by rw [unB_len hb0, List.length_drop]; omega) (unB_cells hb0).symm (by rw [unB_len hb0]; omega))) rfl rfl rfl ?_)
      refine AM.op rfl (O.extract rfl rfl rfl) rfl rfl rfl ?_
      refine AM.op rfl (O.extract rfl rfl rfl) rfl rfl rfl ?_
      refine AM.main _ rfl (fun w0 R0 => ?_)
      (refine AO.store (i := 0) rfl rfl rfl rfl rfl rfl (by rfl) (by rfl) (by rfl) (by (dsimp only [List.set, List.append, List.cons_append, List.nil_append, roB_cells, roI_cells, roO_cells, splice, ofConst, AV.cells, List.map, List.map_cons, List.map_nil, List.take, List.drop, Nat.zero_add, Nat.add_zero, Nat.reduceAdd, Nat.reduceMul, Nat.zero_mul, Value.cells, List.toList_toArray, zerosA, List.replicate, List.flatten, List.append_nil]; done)) (by (dsimp only [List.set, List.append, List.cons_append, List.nil_append, roB_cells, roI_cells, roO_cells, splice, ofConst, AV.cells, List.map, List.map_cons, List.map_nil, List.take, List.drop, Nat.zero_add, Nat.add_zero, Nat.reduceAdd, Nat.reduceMul, Nat.zero_mul, Value.cells, List.toList_toArray, zerosA, List.replicate, List.flatten, List.append_nil]; done)) ?_)
      refine AM.okN ?_
      dsimp only [putE]
      refine AM.op rfl (O.assign rfl rfl) rfl rfl rfl ?_
      refine AM.nil ?_
      dsimp only [List.cons_append, List.nil_append]
      refine AQ.thenN ?_
      refine AW.ret ?_
      refine FnQ.coe (AQ.retCT rfl rfl rfl (by repeat (exact List.Mem.head _)) (by (dsimp only [List.set, List.append, List.cons_append, List.nil_append, roB_cells, roI_cells, roO_cells, splice, ofConst, AV.cells, List.map, List.map_cons, List.map_nil, List.take, List.drop, Nat.zero_add, Nat.add_zero, Nat.reduceAdd, Nat.reduceMul, Nat.zero_mul, Value.cells, List.toList_toArray, zerosA, List.replicate, List.flatten, List.append_nil]; done)) (by rfl) ⟨_, List.nil_sublist _, .nil⟩ ⟨rfl, rfl⟩) (Coe.tup (by (repeat (first | exact CoeL.nil | refine CoeL.cons Coe.rfl ?_)); done)) (ret2M' e)
end Go.Proofs.Ytbmndjjaaeambaa.By

namespace Go.Proofs.Ytbmndjjaaeambaa.By
open Go.RowKit L A Dk
set_option linter.unusedVariables false
set_option linter.unusedSimpArgs false
attribute [local irreducible] AW AQ AO
theorem packR_len (m : Msg) : (packR m).1.length ≤ 5000 := by
  unfold packR
  (repeat' split) <;> first | exact Nat.zero_le _ | skip
  rename_i h
  have := encR_len4 h
  simp only [List.length_cons, List.length_drop]; omega
end Go.Proofs.Ytbmndjjaaeambaa.By

namespace Go.Proofs.Ytbmndjjaaeambaa.By
open Go.RowKit L A
set_option linter.unusedVariables false
set_option linter.unusedSimpArgs false
def fn (n : Int) (os : List Opt) : List Opt := os.filter fun o => decide (o.num = n)
theorem fn_app (n : Int) (a b : List Opt) : fn n (a ++ b) = fn n a ++ fn n b := List.filter_append _ _
theorem fn_no {n : Int} {a : List Opt} (h : ∀ o ∈ a, o.num ≠ n) : fn n a = [] := List.filter_eq_nil_iff.2 fun o ho => by simpa using h o ho
theorem sort_ext : ∀ {a b : List Opt}, SortO a → SortO b → (∀ n, fn n a = fn n b) → a = b
  | [], b, _, _, h => by
    cases b with
    | nil => rfl
    | cons y b => have := h y.num; simp [fn] at this
  | x :: a, [], _, _, h => by have := h x.num; simp [fn] at this
  | x :: a, y :: b, ha, hb, h => by
    unfold SortO at ha hb
    rw [List.pairwise_cons] at ha hb
    have hx : x ∈ fn x.num (x :: a) := by simp [fn]
    rw [h] at hx
    have hxb : x ∈ y :: b := (List.mem_filter.1 hx).1
    have hy : y ∈ fn y.num (y :: b) := by simp [fn]
    rw [← h] at hy
    have hya : y ∈ x :: a := (List.mem_filter.1 hy).1
    have h1 : y.num ≤ x.num := by
      rcases List.mem_cons.1 hxb with e | e
      · rw [e]; exact Int.le_refl _
      · exact hb.1 x e
    have h2 : x.num ≤ y.num := by
      rcases List.mem_cons.1 hya with e | e
      · rw [e]; exact Int.le_refl _
      · exact ha.1 y e
    have hn : x.num = y.num := by omega
    have h3 := h x.num
    have e1 : fn x.num (x :: a) = x :: fn x.num a := by simp [fn]
    have e2 : fn x.num (y :: b) = y :: fn x.num b := by simp [fn, hn]
    rw [e1, e2] at h3
    obtain ⟨h4, h5⟩ := List.cons.inj h3
    subst h4
    refine congrArg (x :: ·) (sort_ext ha.2 hb.2 fun n => ?_)
    by_cases hnx : x.num = n
    · subst hnx; exact h5
    · have := h n
      simpa [fn, hnx] using this
theorem posO_spec (a : List Opt) (n : Int) : ∀ i, (∀ j, posO a n i ≤ j → j < i → n < (oat a j).num) ∧ (∀ p, posO a n i = p + 1 → (oat a p).num ≤ n)
  | 0 => ⟨fun j h1 h2 => by omega, fun p h => by simp [posO] at h⟩
  | i + 1 => by
    obtain ⟨h1, h2⟩ := posO_spec a n i
    rw [posO]
    split
    · rename_i hlt
      refine ⟨fun j h3 h4 => ?_, h2⟩
      rcases Nat.lt_or_ge j i with h5 | h5
      · exact h1 j h3 h5
      · rw [show j = i by omega]; exact hlt
    · rename_i hge
      refine ⟨fun j h3 h4 => by omega, fun p h => ?_⟩
      obtain rfl : i = p := by omega
      omega
theorem sort_at {a : List Opt} (h : SortO a) {i j : Nat} (hij : i ≤ j) (hj : j < a.length) : (oat a i).num ≤ (oat a j).num := by
  rcases Nat.eq_or_lt_of_le hij with rfl | hlt
  · exact Int.le_refl _
  · have := List.pairwise_iff_getElem.1 h i j (by omega) hj hlt
    simpa [show i < a.length by omega, hj] using this
theorem ins_le {a : List Opt} (h : SortO a) (n : Int) : ∀ o ∈ a.take (posO a n a.length), o.num ≤ n := fun o ho => by
  have hp := posO_le a n a.length
  obtain ⟨j, hj, rfl⟩ := List.getElem_of_mem ho
  rw [List.length_take] at hj
  rcases Nat.eq_zero_or_pos (posO a n a.length) with h0 | h0
  · omega
  · obtain ⟨p, hpp⟩ : ∃ p, posO a n a.length = p + 1 := ⟨posO a n a.length - 1, by omega⟩
    have h1 := (posO_spec a n a.length).2 p hpp
    have h2 := sort_at h (i := j) (j := p) (by omega) (by omega)
    rw [List.getElem_take]
    have h3 : (oat a j).num = a[j].num := by simp [show j < a.length by omega]
    omega
theorem ins_gt (a : List Opt) (n : Int) : ∀ o ∈ a.drop (posO a n a.length), n < o.num := fun o ho => by
  obtain ⟨j, hj, rfl⟩ := List.getElem_of_mem ho
  rw [List.length_drop] at hj
  have h1 := (posO_spec a n a.length).1 (posO a n a.length + j) (by omega) (by omega)
  rw [List.getElem_drop]
  have h3 : (oat a (posO a n a.length + j)).num = a[posO a n a.length + j].num := by simp [show posO a n a.length + j < a.length by omega]
  omega
theorem insO_sort {a : List Opt} (h : SortO a) (o : Opt) : SortO (insO a o) := by
  unfold insO SortO
  rw [List.pairwise_append, List.pairwise_append]
  refine ⟨List.Pairwise.sublist (List.take_sublist _ _) h, ⟨List.pairwise_singleton _ _, List.Pairwise.sublist (List.drop_sublist _ _) h, fun x hx y hy => ?_⟩, fun x hx y hy => ?_⟩
  · rw [List.mem_singleton.1 hx]; have := ins_gt a o.num y hy; omega
  · have h1 := ins_le h o.num x hx
    rcases List.mem_append.1 hy with hy | hy
    · rw [List.mem_singleton.1 hy]; exact h1
    · have := ins_gt a o.num y hy; omega
theorem insO_fn {a : List Opt} (o : Opt) (n : Int) : fn n (insO a o) = fn n a ++ fn n [o] := by
  have hd : fn n a = fn n (a.take (posO a o.num a.length)) ++ fn n (a.drop (posO a o.num a.length)) := by rw [← fn_app, List.take_append_drop]
  rw [insO, fn_app, fn_app, hd]
  by_cases h : o.num = n
  · have : fn n (a.drop (posO a o.num a.length)) = [] := fn_no fun x hx => by have := ins_gt a o.num x hx; omega
    rw [this]; simp
  · have : fn n [o] = [] := fn_no fun x hx => by rw [List.mem_singleton.1 hx]; exact h
    rw [this]; simp
theorem insAll_spec (l : List Opt) : SortO (insAll l) ∧ ∀ n, fn n (insAll l) = fn n l := by
  have : ∀ (l a : List Opt), SortO a → SortO (l.foldl insO a) ∧ ∀ n, fn n (l.foldl insO a) = fn n a ++ fn n l := by
    intro l
    induction l with
    | nil => intro a ha; exact ⟨ha, fun n => by simp [fn]⟩
    | cons o l ih =>
      intro a ha
      obtain ⟨h1, h2⟩ := ih (insO a o) (insO_sort ha o)
      refine ⟨h1, fun n => ?_⟩
      rw [List.foldl_cons, h2, insO_fn, List.append_assoc, ← fn_app]; rfl
  obtain ⟨h1, h2⟩ := this l [] List.Pairwise.nil
  exact ⟨h1, fun n => by rw [insAll, h2]; simp [fn]⟩
/-- Two parts that the numbers tell apart. -/
theorem ins_parts {w : List Opt} (h : SortO w) (p : Int → Bool) : insAll ((w.filter fun o => p o.num) ++ (w.filter fun o => !p o.num)) = w := by
  obtain ⟨h1, h2⟩ := insAll_spec ((w.filter fun o => p o.num) ++ (w.filter fun o => !p o.num))
  refine sort_ext h1 h fun n => ?_
  rw [h2, fn_app]
  unfold fn
  rw [List.filter_filter, List.filter_filter]
  cases hp : p n
  · rw [List.filter_eq_nil_iff.2 (fun o ho => by simp only [Bool.and_eq_true, decide_eq_true_eq]; rintro ⟨h3, h4⟩; rw [h3, hp] at h4; cases h4), List.nil_append]
    exact List.filter_congr fun o ho => by by_cases e : o.num = n <;> simp [e, hp]
  · rw [(List.filter_eq_nil_iff (l := w) (p := fun a => decide (a.num = n) && !p a.num)).2 (fun o ho => by simp only [Bool.and_eq_true, decide_eq_true_eq]; rintro ⟨h3, h4⟩; rw [h3, hp] at h4; cases h4), List.append_nil]
    exact List.filter_congr fun o ho => by by_cases e : o.num = n <;> simp [e, hp]
theorem inO_num (c : Int) (o : Opt) : (inO c o).num = o.num := by unfold inO; split <;> rfl
theorem join_opts {c : Int} {os : List Opt} (hs : SortO os) (h9 : ∀ o ∈ os, o.num ≠ 9) : insAll (inL c os ++ outJ (outL os)) = os.map (inO c) := by
  have hsw : SortO (os.map (inO c)) := by
    unfold SortO
    rw [List.pairwise_map]
    exact List.Pairwise.imp (fun h => by rw [inO_num, inO_num]; exact h) hs
  have e1 : inL c os = (os.map (inO c)).filter fun o => (fun n => decide (cls n ≠ 2)) o.num := by
    unfold inL
    rw [List.filter_map]
    congr 1
    exact List.filter_congr fun o ho => by simp only [Function.comp, inO_num]
  have e2 : outJ (outL os) = (os.map (inO c)).filter fun o => !(fun n => decide (cls n ≠ 2)) o.num := by
    unfold outJ outL
    rw [List.filter_filter, List.filter_map]
    have : (os.filter ((fun o : Opt => !(fun n => decide (cls n ≠ 2)) o.num) ∘ inO c)) = os.filter fun o => decide (cls o.num = 2) := List.filter_congr fun o ho => by simp only [Function.comp, inO_num]; by_cases h : cls o.num = 2 <;> simp [h]
    rw [this]
    have h6 : ∀ o ∈ (os.filter fun o => decide (cls o.num = 2)), inO c o = o := fun o ho => by
      have h2 : cls o.num = 2 := by simpa using (List.mem_filter.1 ho).2
      unfold inO
      rw [if_neg]
      rintro ⟨h, -⟩
      rw [h] at h2
      exact absurd h2 (by decide)
    rw [show (os.filter fun o => decide (cls o.num = 2)).map (inO c) = (os.filter fun o => decide (cls o.num = 2)).map id from List.map_congr_left h6, List.map_id]
    refine List.filter_congr fun o ho => ?_
    have := h9 o ho
    by_cases h : cls o.num = 2 <;> simp [jo, h, this]
  rw [e1, e2]
  exact ins_parts hsw (fun n => decide (cls n ≠ 2))
def wantO (q : Bool) (os : List Opt) : List Opt := if q = false ∧ 0 < (allV os 6).length then setO os 6 (List.replicate (allV os 6).length []) else os
theorem want_map {q : Bool} {m : Msg} (h : DM q m) : m.opts.map (inO m.code) = wantO q m.opts := by
  have hs : SortO m.opts := h.2.2.2.2.1.1.sort
  obtain ⟨-, -, hrs⟩ := h.code
  unfold wantO
  cases q
  · rw [Bool.not_false] at hrs
    have hf : (fn 6 m.opts).length = (allV m.opts 6).length := by
      unfold fn allV; rw [List.length_map]; rfl
    have hid : ∀ l : List Opt, (∀ o ∈ l, o.num ≠ 6) → l.map (inO m.code) = l := fun l hl => by
      rw [show l.map (inO m.code) = l.map id from List.map_congr_left fun o ho => if_neg (fun hh => hl o ho hh.1), List.map_id]
    have hmid : (fn 6 m.opts).map (inO m.code) = eqO 6 (List.replicate (allV m.opts 6).length []) := by
      unfold eqO
      rw [List.map_replicate, ← hf]
      refine List.eq_replicate_iff.2 ⟨by simp, fun o ho => ?_⟩
      obtain ⟨p, hp, rfl⟩ := List.mem_map.1 ho
      have h6 : p.num = 6 := by simpa [fn] using (List.mem_filter.1 hp).2
      unfold inO
      rw [if_pos ⟨h6, hrs⟩, h6]
    have hall : m.opts.map (inO m.code) = setO m.opts 6 (List.replicate (allV m.opts 6).length []) := by
      have h3 := sort3 6 hs
      have h4 := congrArg (List.map (inO m.code)) h3
      rw [List.map_append, List.map_append, hid (ltO m.opts 6) (fun o ho => by have : o.num < 6 := (by simpa using (List.mem_filter.1 ho).2); omega), hid (gtO m.opts 6) (fun o ho => by have : 6 < o.num := (by simpa using (List.mem_filter.1 ho).2); omega)] at h4
      rw [← h4]
      unfold setO
      rw [← hmid]; rfl
    split
    · exact hall
    · rename_i hz
      have hz0 : (allV m.opts 6).length = 0 := by simpa using hz
      refine hid _ fun o ho h6 => ?_
      have : o ∈ fn 6 m.opts := List.mem_filter.2 ⟨ho, by simpa using h6⟩
      rw [List.eq_nil_of_length_eq_zero (hf.trans hz0)] at this
      cases this
  · rw [if_neg (by simp)]
    rw [show m.opts.map (inO m.code) = m.opts.map id from List.map_congr_left fun o ho => if_neg (fun hh => by rw [hh.2] at hrs; cases hrs), List.map_id]
theorem in_val {q : Bool} {m : Msg} (h : DM q m) : ValM (inM m) := by
  obtain ⟨c1, -, -⟩ := h.code
  have hv := h.val
  obtain ⟨h1, h2, h3, h4, h5⟩ := h
  have ha : AscO 0 (inL m.code m.opts) := by
    rw [AscO_iff]
    have h6 := AscO_iff.1 h5.1.1
    refine ⟨?_, fun o ho => ?_⟩
    · unfold inL
      rw [List.pairwise_map]
      exact List.Pairwise.imp (fun h => by rw [inO_num, inO_num]; exact h) (h6.1.filter _)
    · obtain ⟨p, hp, rfl⟩ := List.mem_map.1 ho
      have := h6.2 p (List.mem_filter.1 hp).1
      rw [inO_num]
      refine ⟨this.1, this.2.1, ?_⟩
      unfold inO
      split
      · simp
      · exact this.2.2
  have hl := inL_len m.code m.opts
  have hol := h5.1.2.1
  have hn0 := hv.1.2.2.2.1
  refine ⟨⟨⟨by simp [inM], by simp [inM], c1.1, c1.2.1, c1.2.2⟩, ⟨by simp [inM], by simp [inM], by simp [inM], by show ((inL m.code m.opts).length : Int) ≤ 32; omega⟩, ha, fun h => ?_, fun h => by simp [inM] at h, by show (m.pay.length : Int) ≤ 4096; omega⟩, ?_⟩
  · exfalso
    have h9 : m.code ≠ 0 := by
      cases q
      · rw [if_neg (by simp)] at h2
        have : ∀ c ∈ rqL, c ≠ 0 := by decide
        exact this _ h2
      · rw [if_pos rfl] at h2; omega
    exact h9 h
  · have := raw_small (m := inM m) (by simp [inM]) h4.2 (by show (inL m.code m.opts).length ≤ 5; omega) ha (fun o ho => by
      obtain ⟨p, hp, rfl⟩ := List.mem_map.1 (show o ∈ inL m.code m.opts from ho)
      have := h5.1.2.2 p (List.mem_filter.1 hp).1
      unfold inO
      split
      · simp
      · exact this)
    omega
theorem in_pack {q : Bool} {m : Msg} (h : DM q m) : packR (inM m) = (u8 m.code :: (raw (inM m)).drop 4, 0) := by
  have hv := in_val h
  have he : encR (pkM (inM m)) = (raw (inM m), 0) := encR_t hv
  rw [packR, if_pos, he, if_pos rfl]
  · rfl
  · obtain ⟨-, h1, h2⟩ := h.code
    cases q
    · exact .inr h2
    · exact .inl h1
theorem in_unB {q : Bool} {m : Msg} (h : DM q m) : unB (u8 m.code :: (raw (inM m)).drop 4) = raw (inM m) := rfl
theorem in_unpack {q : Bool} {m : Msg} (h : DM q m) : unpackR (u8 m.code :: (raw (inM m)).drop 4) = (inM m, 0) := by
  obtain ⟨c1, h1, h2⟩ := h.code
  have hb : ((bt (u8 m.code :: (raw (inM m)).drop 4) 0).toNat : Int) = m.code := u8_small (by have := c1.1; have := c1.2.1; omega)
  rw [unpackR, if_neg (by simp), hb, if_pos, in_unB h]
  · exact decS_raw (in_val h)
  · cases q
    · exact .inr h2
    · exact .inl h1
theorem in_join {q : Bool} {m : Msg} (h : DM q m) : joinR (outM m) (inM m) = (⟨m.ty, m.code, m.id, m.tok, wantO q m.opts, m.pay⟩, 0) := by
  obtain ⟨c1, h1, h2⟩ := h.code
  have ho : rq (outC m) = q ∧ rs (outC m) = !q := by
    unfold outC
    rw [h1]
    cases q
    · rw [if_neg (by simp)]; split <;> decide
    · rw [if_pos rfl]; split <;> decide
  have hcl : ¬ clsB (inL m.code m.opts) = true := by
    unfold clsB
    rw [List.any_eq_true]
    rintro ⟨o, ho, h3⟩
    obtain ⟨p, hp, rfl⟩ := List.mem_map.1 ho
    rw [inO_num] at h3
    have := (List.mem_filter.1 hp).2
    simp at this h3
    exact this h3
  have hj : insAll (inL m.code m.opts ++ outJ (outL m.opts)) = wantO q m.opts := by
    rw [join_opts h.2.2.2.2.1.1.sort (fun o ho => (h.bad o ho).1), want_map h]
  have e1 : rq (inM m).code = q := h1
  have e2 : rs (inM m).code = !q := h2
  have hcl2 : ¬ clsB (inM m).opts = true := hcl
  rw [joinR, if_pos, if_pos, if_neg hcl2]
  · show ((⟨m.ty, m.code, m.id, m.tok, insAll (inL m.code m.opts ++ outJ (outL m.opts)), m.pay⟩ : Msg), (0 : Int)) = _
    rw [hj]
  · exact ⟨by rw [e1]; exact ho.1.symm, by rw [e2]; exact ho.2.symm⟩
  · rw [e1, e2]; cases q <;> simp
theorem un_pack (b : List UInt8) (h : (unpackR b).2 = 0) : packR (unpackR b).1 = (b, 0) := by
  by_cases hb : b = []
  · rw [unpackR, if_pos hb] at h; cases h
  · rw [unpackR, if_neg hb] at h ⊢
    by_cases hc : rq ((bt b 0).toNat : Int) = true ∨ rs ((bt b 0).toNat : Int) = true
    · rw [if_pos hc] at h ⊢
      have hz := decS_unB b h
      obtain ⟨hv, hr⟩ := decS_ok h
      generalize hm : (decS (unB b)).1 = m at hz hv hr
      have hpk : pkM m = m := by
        obtain ⟨ty, code, id, tok, opts, pay⟩ := m
        obtain ⟨rfl, rfl, rfl⟩ := hz
        rfl
      have h1 : bt (raw m) 1 = u8 m.code := rfl
      have h2 : bt (unB b) 1 = bt b 0 := rfl
      rw [hr, h2] at h1
      have hcode : ((bt b 0).toNat : Int) = m.code := by rw [h1]; exact u8_small (by have := hv.1.1; omega)
      have he : encR (pkM m) = (raw m, 0) := by rw [hpk]; exact encR_t hv
      rw [packR, if_pos (by rw [← hcode]; exact hc), he, if_pos rfl, hr, ← h1]
      have hl : 0 < b.length := by cases b with
        | nil => exact absurd rfl hb
        | cons x b => simp
      have : (unB b).drop 4 = b.drop 1 := rfl
      rw [this, ← drop_bt hl, List.drop_zero]
    · rw [if_neg hc] at h; cases h
end Go.Proofs.Ytbmndjjaaeambaa.By

namespace Go.Proofs.Ytbmndjjaaeambaa.By
open Go.RowKit L A Dk
set_option linter.unusedVariables false
set_option linter.unusedSimpArgs false
attribute [local irreducible] AW AQ AO
def psA (ps : List (List Msg)) : List AV := ps.map roMs
def roPs (ps : List (List Msg)) : AV := .ro false ps.length (psA ps)
def Two (p : List Msg) : Prop := ∃ x y, p = [x, y] ∧ TameM x ∧ TameM y
theorem DM.tame {q : Bool} {m : Msg} (h : DM q m) : TameM m := by
  obtain ⟨-, -, -, h4, h5⟩ := h
  exact ⟨by omega, by omega, by have := h5.1.2.1; omega, fun k hk => by have : (oat m.opts k).val.length ≤ 5 := h5.1.2.2 _ (getD_mem Opt.none hk); omega⟩
theorem SmallM.tame {m : Msg} (h : SmallM m) : TameM m := ⟨by have := h.1; omega, by have := h.1; omega, by have := h.1; omega, fun k hk => by have := h.2 k hk; omega⟩
theorem tame_of {m : Msg} (h1 : m.tok.length ≤ 4294967296) (h2 : m.pay.length ≤ 4294967296) (h3 : m.opts.length ≤ 100000) (h4 : ∀ o ∈ m.opts, o.val.length ≤ 4294967296) : TameM m := ⟨h1, h2, h3, fun k hk => h4 _ (getD_mem Opt.none hk)⟩
theorem split_tame (m : Msg) (h : TameM m) : TameM (splitR m).1 ∧ TameM (splitR m).2.1 := by
  have hn : TameM Msg.none := tame_of (by simp [Msg.none]) (by simp [Msg.none]) (by simp [Msg.none]) (by simp [Msg.none])
  obtain ⟨h1, h2, h3, h4⟩ := h
  have h5 : ∀ o ∈ m.opts, o.val.length ≤ 4294967296 := fun o ho => by
    obtain ⟨j, hj, rfl⟩ := List.getElem_of_mem ho
    have := h4 j hj
    simpa [hj] using this
  unfold splitR
  (repeat' split) <;> first | exact ⟨hn, hn⟩ | skip
  refine ⟨tame_of (by simp [inM]) h2 (by have := inL_len m.code m.opts; show (inL m.code m.opts).length ≤ _; omega) (fun o ho => ?_), tame_of h1 (by simp [outM]) (by have := outL_len m.opts; show (outL m.opts).length ≤ _; omega) (fun o ho => h5 o (List.mem_filter.1 ho).1)⟩
  obtain ⟨p, hp, rfl⟩ := List.mem_map.1 (show o ∈ inL m.code m.opts from ho)
  unfold inO
  split
  · simp
  · exact h5 p (List.mem_filter.1 hp).1
end Go.Proofs.Ytbmndjjaaeambaa.By

namespace Go.Proofs.Ytbmndjjaaeambaa.A
open Go.RowKit L
section
variable {P : Program} {E : Env} {H : List HE} {N : Nat} {o : Oper}
theorem OpW.coe {a b : AV} (h : OpW P N o E H (Is a)) (hc : Coe a b) : OpW P N o E H (Is b) := fun R a' W h1 h2 h3 h4 => by
  refine Oper.wp_mono ?_ (h R a' W h1 h2 h3 h4)
  rintro A' W' ⟨u, v, Hn, R', rfl, ⟨rfl, rfl⟩, p⟩
  exact ⟨u, b, [], R', rfl, ⟨rfl, rfl⟩, { p with val := hc R' W' u p.val }⟩
end
end Go.Proofs.Ytbmndjjaaeambaa.A
namespace Go.Proofs.Ytbmndjjaaeambaa.By
open Go.RowKit L A Dk
set_option linter.unusedVariables false
set_option linter.unusedSimpArgs false
attribute [local irreducible] AW AQ AO
theorem zerosBs (n : Nat) : CoeL (zerosA n (.slice none 0 0)) (bsA (List.replicate n [])) := by
  have e : zerosA n (.slice none 0 0) = List.replicate n (.val (.slice none 0 0)) := by
    rw [zerosA, show (Value.slice none 0 0).cells.toList.map AV.val = [AV.val (.slice none 0 0)] from rfl, List.flatten_replicate_singleton]
  rw [e, bsA, List.map_replicate]
  induction n with
  | zero => exact CoeL.nil
  | succ n ih =>
    rw [List.replicate_succ, List.replicate_succ]
    exact CoeL.cons Coe.nil (ih (by rw [zerosA, show (Value.slice none 0 0).cells.toList.map AV.val = [AV.val (.slice none 0 0)] from rfl, List.flatten_replicate_singleton]))
theorem _root_.Go.Proofs.Ytbmndjjaaeambaa.A.O.makeBs {P : Program} {E : Env} {H : List HE} {N : Nat} {o : Oper} {T U k bs : Nat} {x y : Operand} {n : Nat} {kl kc : IntKind} {p q : Int} [hs : TyS P T U k bs (.slice none 0 0)] (ho : o.op = .makeSlice T x y) (hx : ev E x = some (.val (.int kl p))) (hy : ev E y = some (.val (.int kc q))) (hp : p = (n : Int)) (hq : q = (n : Int)) (hn : n * bs ≤ 140737488355328) (hn2 : n ≤ maxLen) (hzk : Nat.beq (Value.slice none 0 0).cells.size k = true) :
    OpW P N o E H (Is (roBs (List.replicate n []))) := by
  have := OpW.coe (OpW.frz (O.makeSlice (P := P) (z := .slice none 0 0) (N := N) (H := H) ho hx hy hp hq hn hn2 hzk) hn2) (Coe.ro (zerosBs n))
  rwa [show roBs (List.replicate n []) = .ro false n (bsA (List.replicate n [])) by unfold roBs; rw [List.length_replicate]]
set_option maxHeartbeats 8000000 in
theorem lawBack_fn (l : List Int) (at' by' : Int) (ans : Bool) (hl : l.length ≤ maxLen) (hby : -9223372036854775808 ≤ by' ∧ by' ≤ 9223372036854775807) : Sp Try.prog 8 [roI l, .val (.int .i64 at'), .val (.int .i64 by'), .val (.bool ans)] [] (Is (.val (.bool true))) := by
  refine Sp.enter Try.func8 rfl _ Try.ntmps8 rfl (fun w0 R0 => ?_)
  refine AW.seq ?_
  refine AW.region ?_
  refine AO.op (O.assign rfl rfl) rfl rfl rfl ?_
  refine AO.nil ?_
  refine AQ.thenN ?_
  refine AW.seq ?_
  refine AW.region ?_
  refine AO.op (O.move rfl rfl) rfl rfl rfl ?_
  refine AO.opB (O.call rfl Try.func14 rfl rfl rfl (new_fn _)) rfl rfl rfl ?_
  intro B1
  refine AO.op (O.assign rfl rfl) rfl rfl rfl ?_
  refine AO.nil ?_
  refine AQ.thenN ?_
  refine AW.seq ?_
  refine AW.region ?_
  refine AO.op (O.move rfl rfl) rfl rfl rfl ?_
  refine AO.callMG 0 rfl rfl Try.func15 rfl rfl rfl rfl rfl rfl (request_any _ l _ hl (by exact Nat.zero_le _)) ?_
  rintro _ _ ⟨⟨m2, hm2, rfl⟩, kd2, hkd2, rfl⟩
  dsimp only [List.cons_append, List.nil_append, List.eraseIdx]
  refine AO.opB (O.alloc rfl (by (dsimp only [List.set, List.append, List.cons_append, List.nil_append, roB_cells, roI_cells, roO_cells, splice, ofConst, AV.cells, List.map, List.map_cons, List.map_nil, List.take, List.drop, Nat.zero_add, Nat.add_zero, Nat.reduceAdd, Nat.reduceMul, Nat.zero_mul, Value.cells, List.toList_toArray, zerosA, List.replicate, List.flatten, List.append_nil]; done)) (by rfl)) rfl rfl rfl ?_
  intro B3
  (refine AO.store (i := 0) rfl rfl rfl rfl rfl rfl (by rfl) (by rfl) (by rfl) (by (dsimp only [List.set, List.append, List.cons_append, List.nil_append, roB_cells, roI_cells, roO_cells, splice, ofConst, AV.cells, List.map, List.map_cons, List.map_nil, List.take, List.drop, Nat.zero_add, Nat.add_zero, Nat.reduceAdd, Nat.reduceMul, Nat.zero_mul, Value.cells, List.toList_toArray, zerosA, List.replicate, List.flatten, List.append_nil]; done)) (by (dsimp only [List.set, List.append, List.cons_append, List.nil_append, roB_cells, roI_cells, roO_cells, splice, ofConst, AV.cells, List.map, List.map_cons, List.map_nil, List.take, List.drop, Nat.zero_add, Nat.add_zero, Nat.reduceAdd, Nat.reduceMul, Nat.zero_mul, Value.cells, List.toList_toArray, zerosA, List.replicate, List.flatten, List.append_nil]; done)) ?_)
  refine AO.nil ?_
  refine AQ.thenN ?_
  refine AW.seq ?_
  refine AW.seq ?_
  refine AW.region ?_
  refine AO.op (O.move rfl rfl) rfl rfl rfl ?_
  refine AO.nil ?_
  refine AQ.thenN ?_
  refine AW.joinI [(1, _), (2, _), (3, _), (10, _)] (fun E H => ∃ (m : Msg) (q : Bool), (DM q m) ∧ (q = !ans) ∧ E = [] ∧ H = [.blk B3 29 6 [.val (.int .i64 m.ty), .val (.int .i64 m.code), .val (.int .i64 m.id), roB m.tok, roO m.opts, roB m.pay]]) rfl (by repeat (first | exact envNil | refine envCons rfl ?_)) (fun h => ?_) (fun h => ?_) ?_ <;> try (try simp only [decide_eq_true_eq, decide_eq_false_iff_not, beq_iff_eq, beq_eq_false_iff_ne, bne_iff_ne, bne_eq_false_iff_eq, Bool.not_eq_true', Bool.not_eq_false', Bool.not_eq_true, Bool.not_eq_false, ne_eq, Int.not_lt, Int.not_le, Bool.and_eq_true, Bool.or_eq_true, Bool.or_eq_false_iff, Bool.and_eq_false_imp, strOf_toList, Decidable.not_not] at h)
  · skip
    refine AW.region ?_
    refine AO.op (O.move rfl rfl) rfl rfl rfl ?_
    refine AO.callMG 1 rfl rfl Try.func16 rfl rfl rfl rfl rfl rfl (response_any _ l _ hl (by assumption)) ?_
    rintro _ _ ⟨⟨m4, hm4, rfl⟩, kd4, hkd4, rfl⟩
    dsimp only [List.cons_append, List.nil_append, List.eraseIdx]
    (refine AO.store (i := 1) rfl rfl rfl rfl rfl rfl (by rfl) (by rfl) (by rfl) (by (dsimp only [List.set, List.append, List.cons_append, List.nil_append, roB_cells, roI_cells, roO_cells, splice, ofConst, AV.cells, List.map, List.map_cons, List.map_nil, List.take, List.drop, Nat.zero_add, Nat.add_zero, Nat.reduceAdd, Nat.reduceMul, Nat.zero_mul, Value.cells, List.toList_toArray, zerosA, List.replicate, List.flatten, List.append_nil]; done)) (by (dsimp only [List.set, List.append, List.cons_append, List.nil_append, roB_cells, roI_cells, roO_cells, splice, ofConst, AV.cells, List.map, List.map_cons, List.map_nil, List.take, List.drop, Nat.zero_add, Nat.add_zero, Nat.reduceAdd, Nat.reduceMul, Nat.zero_mul, Value.cells, List.toList_toArray, zerosA, List.replicate, List.flatten, List.append_nil]; done)) ?_)
    refine AO.nil ?_
    refine AQ.midI _ _ (⟨m4, false, hm4, by rw [h]; rfl, rfl, rfl⟩) (by repeat (first | exact envNil | refine envCons rfl ?_)) (by repeat (exact envNil)) (by repeat (first | exact subPnil | refine subPcons 1 rfl ?_))
  · skip
    refine AW.skip ?_
    refine AQ.midI _ _ (⟨m2, true, hm2, by rw [h]; rfl, rfl, rfl⟩) (by repeat (first | exact envNil | refine envCons rfl ?_)) (by repeat (exact envNil)) (by repeat (first | exact subPnil | refine subPcons 0 rfl ?_))
  rintro E1 H1 ⟨m, q, hm, hq, rfl, rfl⟩
  dsimp only [List.cons_append, List.nil_append]
  refine AQ.thenN ?_
  have hsp := split_fn m
  rw [hm.split] at hsp
  have hpk := pack_fn (inM m)
  rw [in_pack hm] at hpk
  obtain ⟨pk, hpke⟩ : ∃ pk, pk = u8 m.code :: (raw (inM m)).drop 4 := ⟨_, rfl⟩
  rw [← hpke] at hpk
  have hpl : pk.length ≤ 5000 := by have := packR_len (inM m); rw [in_pack hm, ← hpke] at this; exact this
  have hun := unpack_fn pk (by omega)
  rw [hpke, in_unpack hm, ← hpke] at hun
  have htm := split_tame m hm.tame
  rw [hm.split] at htm
  have hjn := join_fn (outM m) (inM m) htm.2 htm.1
  rw [in_join hm] at hjn
  have hol : m.opts.length ≤ 5 := hm.2.2.2.2.1.2.1
  have hob : ∀ o ∈ m.opts, o.val.length ≤ 4294967296 := hm.sm.2.2.2
  have hav := allV_len m.opts 6
  refine AW.seq ?_
  refine AW.region ?_
  refine AO.op (O.loadK rfl rfl (by repeat (exact List.Mem.head _)) (by rfl) (by rfl)) rfl rfl rfl ?_
  refine AO.op (O.call rfl Try.func20 rfl rfl rfl (hsp)) rfl rfl rfl ?_
  refine AO.op (O.move rfl rfl) rfl rfl rfl ?_
  refine AO.op (O.extract rfl rfl rfl) rfl rfl rfl ?_
  refine AO.op (O.extract rfl rfl rfl) rfl rfl rfl ?_
  refine AO.op (O.extract rfl rfl rfl) rfl rfl rfl ?_
  refine AO.opB (O.alloc rfl (by (dsimp only [List.set, List.append, List.cons_append, List.nil_append, roB_cells, roI_cells, roO_cells, splice, ofConst, AV.cells, List.map, List.map_cons, List.map_nil, List.take, List.drop, Nat.zero_add, Nat.add_zero, Nat.reduceAdd, Nat.reduceMul, Nat.zero_mul, Value.cells, List.toList_toArray, zerosA, List.replicate, List.flatten, List.append_nil]; done)) (by rfl)) rfl rfl rfl ?_
  intro B5
  refine AO.opB (O.alloc rfl (by (dsimp only [List.set, List.append, List.cons_append, List.nil_append, roB_cells, roI_cells, roO_cells, splice, ofConst, AV.cells, List.map, List.map_cons, List.map_nil, List.take, List.drop, Nat.zero_add, Nat.add_zero, Nat.reduceAdd, Nat.reduceMul, Nat.zero_mul, Value.cells, List.toList_toArray, zerosA, List.replicate, List.flatten, List.append_nil]; done)) (by rfl)) rfl rfl rfl ?_
  intro B6
  (refine AO.store (i := 1) rfl rfl rfl rfl rfl rfl (by rfl) (by rfl) (by rfl) (by (dsimp only [List.set, List.append, List.cons_append, List.nil_append, roB_cells, roI_cells, roO_cells, splice, ofConst, AV.cells, List.map, List.map_cons, List.map_nil, List.take, List.drop, Nat.zero_add, Nat.add_zero, Nat.reduceAdd, Nat.reduceMul, Nat.zero_mul, Value.cells, List.toList_toArray, zerosA, List.replicate, List.flatten, List.append_nil]; done)) (by (dsimp only [List.set, List.append, List.cons_append, List.nil_append, roB_cells, roI_cells, roO_cells, splice, ofConst, AV.cells, List.map, List.map_cons, List.map_nil, List.take, List.drop, Nat.zero_add, Nat.add_zero, Nat.reduceAdd, Nat.reduceMul, Nat.zero_mul, Value.cells, List.toList_toArray, zerosA, List.replicate, List.flatten, List.append_nil]; done)) ?_)
  (refine AO.store (i := 0) rfl rfl rfl rfl rfl rfl (by rfl) (by rfl) (by rfl) (by (dsimp only [List.set, List.append, List.cons_append, List.nil_append, roB_cells, roI_cells, roO_cells, splice, ofConst, AV.cells, List.map, List.map_cons, List.map_nil, List.take, List.drop, Nat.zero_add, Nat.add_zero, Nat.reduceAdd, Nat.reduceMul, Nat.zero_mul, Value.cells, List.toList_toArray, zerosA, List.replicate, List.flatten, List.append_nil]; done)) (by (dsimp only [List.set, List.append, List.cons_append, List.nil_append, roB_cells, roI_cells, roO_cells, splice, ofConst, AV.cells, List.map, List.map_cons, List.map_nil, List.take, List.drop, Nat.zero_add, Nat.add_zero, Nat.reduceAdd, Nat.reduceMul, Nat.zero_mul, Value.cells, List.toList_toArray, zerosA, List.replicate, List.flatten, List.append_nil]; done)) ?_)
  refine AO.op (O.assign rfl rfl) rfl rfl rfl ?_
  refine AO.nil ?_
  refine AQ.thenN ?_
  refine AW.seq ?_
  refine AW.region ?_
  refine AO.op (O.loadK rfl rfl (by repeat (first | exact List.Mem.head _ | refine List.Mem.tail _ ?_)) (by rfl) (by rfl)) rfl rfl rfl ?_
  refine AO.op (O.call rfl Try.func28 rfl rfl rfl (hpk)) rfl rfl rfl ?_
  refine AO.op (O.move rfl rfl) rfl rfl rfl ?_
  refine AO.op (O.extract rfl rfl rfl) rfl rfl rfl ?_
  refine AO.op (O.extract rfl rfl rfl) rfl rfl rfl ?_
  refine AO.op (O.assign rfl rfl) rfl rfl rfl ?_
  refine AO.op (O.assign rfl rfl) rfl rfl rfl ?_
  refine AO.nil ?_
  refine AQ.thenN ?_
  refine AW.seq ?_
  refine AW.region ?_
  refine AO.op (O.move rfl rfl) rfl rfl rfl ?_
  refine AO.op (O.call rfl Try.func32 rfl rfl rfl (hun)) rfl rfl rfl ?_
  refine AO.op (O.move rfl rfl) rfl rfl rfl ?_
  refine AO.op (O.extract rfl rfl rfl) rfl rfl rfl ?_
  refine AO.op (O.extract rfl rfl rfl) rfl rfl rfl ?_
  refine AO.opB (O.alloc rfl (by (dsimp only [List.set, List.append, List.cons_append, List.nil_append, roB_cells, roI_cells, roO_cells, splice, ofConst, AV.cells, List.map, List.map_cons, List.map_nil, List.take, List.drop, Nat.zero_add, Nat.add_zero, Nat.reduceAdd, Nat.reduceMul, Nat.zero_mul, Value.cells, List.toList_toArray, zerosA, List.replicate, List.flatten, List.append_nil]; done)) (by rfl)) rfl rfl rfl ?_
  intro B7
  (refine AO.store (i := 0) rfl rfl rfl rfl rfl rfl (by rfl) (by rfl) (by rfl) (by (dsimp only [List.set, List.append, List.cons_append, List.nil_append, roB_cells, roI_cells, roO_cells, splice, ofConst, AV.cells, List.map, List.map_cons, List.map_nil, List.take, List.drop, Nat.zero_add, Nat.add_zero, Nat.reduceAdd, Nat.reduceMul, Nat.zero_mul, Value.cells, List.toList_toArray, zerosA, List.replicate, List.flatten, List.append_nil]; done)) (by (dsimp only [List.set, List.append, List.cons_append, List.nil_append, roB_cells, roI_cells, roO_cells, splice, ofConst, AV.cells, List.map, List.map_cons, List.map_nil, List.take, List.drop, Nat.zero_add, Nat.add_zero, Nat.reduceAdd, Nat.reduceMul, Nat.zero_mul, Value.cells, List.toList_toArray, zerosA, List.replicate, List.flatten, List.append_nil]; done)) ?_)
  refine AO.op (O.assign rfl rfl) rfl rfl rfl ?_
  refine AO.nil ?_
  refine AQ.thenN ?_
  refine AW.seq ?_
  refine AW.region ?_
  refine AO.op (O.loadK rfl rfl (by repeat (first | exact List.Mem.head _ | refine List.Mem.tail _ ?_)) (by rfl) (by rfl)) rfl rfl rfl ?_
  refine AO.op (O.loadK rfl rfl (by repeat (exact List.Mem.head _)) (by rfl) (by rfl)) rfl rfl rfl ?_
  refine AO.op (O.call rfl Try.func25 rfl rfl rfl (hjn)) rfl rfl rfl ?_
  refine AO.op (O.move rfl rfl) rfl rfl rfl ?_
  refine AO.op (O.extract rfl rfl rfl) rfl rfl rfl ?_
  refine AO.op (O.extract rfl rfl rfl) rfl rfl rfl ?_
  refine AO.opB (O.alloc rfl (by (dsimp only [List.set, List.append, List.cons_append, List.nil_append, roB_cells, roI_cells, roO_cells, splice, ofConst, AV.cells, List.map, List.map_cons, List.map_nil, List.take, List.drop, Nat.zero_add, Nat.add_zero, Nat.reduceAdd, Nat.reduceMul, Nat.zero_mul, Value.cells, List.toList_toArray, zerosA, List.replicate, List.flatten, List.append_nil]; done)) (by rfl)) rfl rfl rfl ?_
  intro B8
  (refine AO.store (i := 0) rfl rfl rfl rfl rfl rfl (by rfl) (by rfl) (by rfl) (by (dsimp only [List.set, List.append, List.cons_append, List.nil_append, roB_cells, roI_cells, roO_cells, splice, ofConst, AV.cells, List.map, List.map_cons, List.map_nil, List.take, List.drop, Nat.zero_add, Nat.add_zero, Nat.reduceAdd, Nat.reduceMul, Nat.zero_mul, Value.cells, List.toList_toArray, zerosA, List.replicate, List.flatten, List.append_nil]; done)) (by (dsimp only [List.set, List.append, List.cons_append, List.nil_append, roB_cells, roI_cells, roO_cells, splice, ofConst, AV.cells, List.map, List.map_cons, List.map_nil, List.take, List.drop, Nat.zero_add, Nat.add_zero, Nat.reduceAdd, Nat.reduceMul, Nat.zero_mul, Value.cells, List.toList_toArray, zerosA, List.replicate, List.flatten, List.append_nil]; done)) ?_)
  refine AO.op (O.assign rfl rfl) rfl rfl rfl ?_
  refine AO.nil ?_
  refine AQ.thenN ?_
  refine AW.seq ?_
  refine AW.region ?_
  refine AO.op (O.loadK rfl rfl (by repeat (first | exact List.Mem.head _ | refine List.Mem.tail _ ?_)) (by rfl) (by rfl)) rfl rfl rfl ?_
  refine AO.opB (O.alloc rfl (by (dsimp only [List.set, List.append, List.cons_append, List.nil_append, roB_cells, roI_cells, roO_cells, splice, ofConst, AV.cells, List.map, List.map_cons, List.map_nil, List.take, List.drop, Nat.zero_add, Nat.add_zero, Nat.reduceAdd, Nat.reduceMul, Nat.zero_mul, Value.cells, List.toList_toArray, zerosA, List.replicate, List.flatten, List.append_nil]; done)) (by rfl)) rfl rfl rfl ?_
  intro B9
  (refine AO.store (i := 0) rfl rfl rfl rfl rfl rfl (by rfl) (by rfl) (by rfl) (by (dsimp only [List.set, List.append, List.cons_append, List.nil_append, roB_cells, roI_cells, roO_cells, splice, ofConst, AV.cells, List.map, List.map_cons, List.map_nil, List.take, List.drop, Nat.zero_add, Nat.add_zero, Nat.reduceAdd, Nat.reduceMul, Nat.zero_mul, Value.cells, List.toList_toArray, zerosA, List.replicate, List.flatten, List.append_nil]; done)) (by (dsimp only [List.set, List.append, List.cons_append, List.nil_append, roB_cells, roI_cells, roO_cells, splice, ofConst, AV.cells, List.map, List.map_cons, List.map_nil, List.take, List.drop, Nat.zero_add, Nat.add_zero, Nat.reduceAdd, Nat.reduceMul, Nat.zero_mul, Value.cells, List.toList_toArray, zerosA, List.replicate, List.flatten, List.append_nil]; done)) ?_)
  refine AO.nil ?_
  refine AQ.thenN ?_
  refine AW.seq ?_
  refine AW.seq ?_
  refine AW.region ?_
  refine AO.op (O.loadK rfl rfl (by repeat (first | exact List.Mem.head _ | refine List.Mem.tail _ ?_)) (by rfl) (by rfl)) rfl rfl rfl ?_
  refine AO.op (O.call rfl Try.func34 rfl rfl rfl (oall_fn m 6 (by omega) hob)) rfl rfl rfl ?_
  refine AO.op (O.assign rfl rfl) rfl rfl rfl ?_
  refine AO.nil ?_
  refine AQ.thenN ?_
  refine AW.seq ?_
  refine AW.region ?_
  refine AO.op (O.move rfl rfl) rfl rfl rfl ?_
  refine AO.op (O.move rfl rfl) rfl rfl rfl ?_
  refine AO.opG rfl rfl rfl (fun hp => O.move rfl rfl) ?_
  refine AO.opG rfl rfl rfl (fun hp => OpW.force 61 rfl (by exact hp) (O.lenR rfl rfl)) ?_
  refine AO.opG rfl rfl rfl (fun hp => OpW.force 62 rfl (by exact hp) (O.gtr rfl rfl rfl (by rfl))) ?_
  refine AO.op (O.pickAnd rfl rfl rfl rfl (fun h => by exact h)) rfl rfl rfl ?_
  refine AO.nil ?_
  refine AQ.thenN ?_
  refine AW.joinI [(1, _), (2, _), (10, _), (13, _), (14, _), (15, _), (17, _), (18, _), (19, _), (20, _)] (fun E H => E = [] ∧ H = [.blk B9 29 6 [.val (.int .i64 m.ty), .val (.int .i64 m.code), .val (.int .i64 m.id), roB m.tok, roO (wantO q m.opts), roB m.pay], .blk B8 29 6 [.val (.int .i64 m.ty), .val (.int .i64 m.code), .val (.int .i64 m.id), roB m.tok, roO (wantO q m.opts), roB m.pay]]) rfl (by repeat (first | exact envNil | refine envCons rfl ?_)) (fun h5 => ?_) (fun h5 => ?_) ?_ <;> try (try simp only [decide_eq_true_eq, decide_eq_false_iff_not, beq_iff_eq, beq_eq_false_iff_ne, bne_iff_ne, bne_eq_false_iff_eq, Bool.not_eq_true', Bool.not_eq_false', Bool.not_eq_true, Bool.not_eq_false, ne_eq, Int.not_lt, Int.not_le, Bool.and_eq_true, Bool.or_eq_true, Bool.or_eq_false_iff, Bool.and_eq_false_imp, strOf_toList, Decidable.not_not] at h5)
  · skip
    have e : wantO q m.opts = setO m.opts 6 (List.replicate (allV m.opts 6).length []) := by
      rw [wantO, if_pos]
      exact ⟨by rw [hq, h5.1]; rfl, by omega⟩
    have hzl : ((allV m.opts 6).length : Int) = ((allV m.opts 6).length : Nat) := rfl
    refine AW.regionD 5 (by kernel_rfl) (by kernel_rfl) ?_
    simp only [List.take_succ_cons, List.take_zero, List.drop_succ_cons, List.drop_zero]
    refine FA.op (O.loadK rfl rfl (by repeat (first | exact List.Mem.head _ | refine List.Mem.tail _ ?_)) (by rfl) (by rfl)) rfl rfl rfl rfl ?_
    refine FA.op (O.move rfl rfl) rfl rfl rfl rfl ?_
    refine FA.op (O.lenR rfl rfl) rfl rfl rfl rfl ?_
    refine FA.op (O.makeBs rfl rfl rfl (by rfl) (by rfl) (by omega) (by (unfold maxLen; omega)) (by rfl)) rfl rfl rfl rfl ?_
    (refine FA.op (O.call rfl Try.func35 rfl rfl rfl (oset_fn m 6 (List.replicate (allV m.opts 6).length []) hm.sm.1 hm.sm.2.1 (by omega) (by rw [List.length_replicate]; omega) hob (by intro v hv; rw [List.eq_of_mem_replicate hv]; simp))) rfl rfl rfl rfl ?_)
    refine FA.nil ?_
    simp only [chosen, List.nil_append, List.cons_append, List.append_nil]
    (refine AO.store (i := 0) rfl rfl rfl rfl rfl rfl (by rfl) (by rfl) (by rfl) (by (dsimp only [List.set, List.append, List.cons_append, List.nil_append, roB_cells, roI_cells, roO_cells, splice, ofConst, AV.cells, List.map, List.map_cons, List.map_nil, List.take, List.drop, Nat.zero_add, Nat.add_zero, Nat.reduceAdd, Nat.reduceMul, Nat.zero_mul, Value.cells, List.toList_toArray, zerosA, List.replicate, List.flatten, List.append_nil]; done)) (by (dsimp only [List.set, List.append, List.cons_append, List.nil_append, roB_cells, roI_cells, roO_cells, splice, ofConst, AV.cells, List.map, List.map_cons, List.map_nil, List.take, List.drop, Nat.zero_add, Nat.add_zero, Nat.reduceAdd, Nat.reduceMul, Nat.zero_mul, Value.cells, List.toList_toArray, zerosA, List.replicate, List.flatten, List.append_nil]; done)) ?_)
    refine AO.nil ?_
    refine AQ.g ?_
    refine G.coeBlk 0 [.val (.int .i64 m.ty), .val (.int .i64 m.code), .val (.int .i64 m.id), roB m.tok, roO (wantO q m.opts), roB m.pay] (by rfl) rfl (CoeL.of_eq (by rw [e])) ?_
    refine AQ.u ?_
    refine AQ.midI _ _ (⟨rfl, rfl⟩) (by repeat (first | exact envNil | refine envCons rfl ?_)) (by repeat (exact envNil)) (by repeat (first | exact subPnil | refine subPcons 0 rfl ?_))
  · skip
    have e : wantO q m.opts = m.opts := by
      rw [wantO, if_neg]
      rintro ⟨h6, h7⟩
      rw [hq] at h6
      cases ans
      · cases h6
      · have := h5 rfl; omega
    refine AW.skip ?_
    refine AQ.g ?_
    refine G.coeBlk 0 [.val (.int .i64 m.ty), .val (.int .i64 m.code), .val (.int .i64 m.id), roB m.tok, roO (wantO q m.opts), roB m.pay] (by rfl) rfl (CoeL.of_eq (by rw [e])) ?_
    refine AQ.u ?_
    refine AQ.midI _ _ (⟨rfl, rfl⟩) (by repeat (first | exact envNil | refine envCons rfl ?_)) (by repeat (exact envNil)) (by repeat (first | exact subPnil | refine subPcons 0 rfl ?_))
  rintro E1 H1 ⟨rfl, rfl⟩
  dsimp only [List.cons_append, List.nil_append]
  refine AQ.thenN ?_
  have hwl : (wantO q m.opts).length ≤ 1000000 := by rw [← want_map hm, List.length_map]; omega
  refine AW.seq ?_
  refine AW.seq ?_
  refine AW.region ?_
  refine AO.op (O.move rfl rfl) rfl rfl rfl ?_
  refine AO.op (O.neq rfl rfl rfl (by exact bne_eq_false_iff_eq.2 (by omega))) rfl rfl rfl ?_
  refine AO.op (O.move rfl rfl) rfl rfl rfl ?_
  refine AO.opG rfl rfl rfl (fun hp => O.move rfl rfl) ?_
  refine AO.opG rfl rfl rfl (fun hp => OpW.force 73 rfl (by exact hp) (O.neq rfl rfl rfl (by exact bne_eq_false_iff_eq.2 (by omega)))) ?_
  refine AO.op (O.pickOr rfl rfl rfl rfl (fun h => by exact congrArg (fun b => !b) h)) rfl rfl rfl ?_
  refine AO.op (O.move rfl rfl) rfl rfl rfl ?_
  refine AO.opG rfl rfl rfl (fun hp => O.move rfl rfl) ?_
  refine AO.opG rfl rfl rfl (fun hp => OpW.force 77 rfl (by exact hp) (O.neq rfl rfl rfl (by exact bne_eq_false_iff_eq.2 (by omega)))) ?_
  refine AO.op (O.pickOr rfl rfl rfl rfl (fun h => by exact congrArg (fun b => !b) h)) rfl rfl rfl ?_
  refine AO.op (O.move rfl rfl) rfl rfl rfl ?_
  refine AO.opG rfl rfl rfl (fun hp => O.move rfl rfl) ?_
  refine AO.opG rfl rfl rfl (fun hp => OpW.force 81 rfl (by exact hp) (O.neq rfl rfl rfl (by exact bne_eq_false_iff_eq.2 (by omega)))) ?_
  refine AO.op (O.pickOr rfl rfl rfl rfl (fun h => by exact congrArg (fun b => !b) h)) rfl rfl rfl ?_
  refine AO.op (O.move rfl rfl) rfl rfl rfl ?_
  refine AO.opG rfl rfl rfl (fun hp => O.loadK rfl rfl (by repeat (first | exact List.Mem.head _ | refine List.Mem.tail _ ?_)) (by rfl) (by rfl)) ?_
  refine AO.opG rfl rfl rfl (fun hp => O.loadK rfl rfl (by repeat (exact List.Mem.head _)) (by rfl) (by rfl)) ?_
  refine AO.opG rfl rfl rfl (fun hp => OpW.force 85 rfl (by exact hp) (OpW.force 86 rfl (by exact hp) (O.call rfl Try.func22 rfl rfl rfl (same_fn ⟨m.ty, m.code, m.id, m.tok, wantO q m.opts, m.pay⟩ ⟨m.ty, m.code, m.id, m.tok, wantO q m.opts, m.pay⟩ hwl)))) ?_
  refine AO.opG rfl rfl rfl (fun hp => OpW.force 87 rfl (by exact hp) (O.not rfl rfl (by rfl))) ?_
  refine AO.op (O.pickOr rfl rfl rfl rfl (fun h => by exact congrArg (fun b => !b) h)) rfl rfl rfl ?_
  refine AO.nil ?_
  refine AQ.thenN ?_
  refine AW.split rfl (fun h7 => ?_) (fun h7 => ?_)
  · skip
    simp at h7
  · skip
    refine AW.skip ?_
    refine AQ.thenN ?_
    refine AW.seq ?_
    refine AW.region ?_
    refine AO.op (O.move rfl rfl) rfl rfl rfl ?_
    refine AO.op (O.move rfl rfl) rfl rfl rfl ?_
    refine AO.op (O.move rfl rfl) rfl rfl rfl ?_
    refine AO.opN (O.call rfl Try.func31 rfl rfl rfl (spoilt_fn pk _ _ (by omega) hby)) rfl rfl rfl ?_
    rintro _ _ ⟨⟨x10, hx10, rfl⟩, rfl⟩
    simp only [List.cons_append, List.nil_append]
    refine AO.op (O.assign rfl rfl) rfl rfl rfl ?_
    refine AO.nil ?_
    refine AQ.thenN ?_
    refine AW.seq ?_
    refine AW.region ?_
    refine AO.op (O.move rfl rfl) rfl rfl rfl ?_
    refine AO.op (O.call rfl Try.func32 rfl rfl rfl (unpack_fn x10 (by omega))) rfl rfl rfl ?_
    refine AO.op (O.move rfl rfl) rfl rfl rfl ?_
    refine AO.op (O.extract rfl rfl rfl) rfl rfl rfl ?_
    refine AO.op (O.extract rfl rfl rfl) rfl rfl rfl ?_
    refine AO.opB (O.alloc rfl (by (dsimp only [List.set, List.append, List.cons_append, List.nil_append, roB_cells, roI_cells, roO_cells, splice, ofConst, AV.cells, List.map, List.map_cons, List.map_nil, List.take, List.drop, Nat.zero_add, Nat.add_zero, Nat.reduceAdd, Nat.reduceMul, Nat.zero_mul, Value.cells, List.toList_toArray, zerosA, List.replicate, List.flatten, List.append_nil]; done)) (by rfl)) rfl rfl rfl ?_
    intro B11
    (refine AO.store (i := 0) rfl rfl rfl rfl rfl rfl (by rfl) (by rfl) (by rfl) (by (dsimp only [List.set, List.append, List.cons_append, List.nil_append, roB_cells, roI_cells, roO_cells, splice, ofConst, AV.cells, List.map, List.map_cons, List.map_nil, List.take, List.drop, Nat.zero_add, Nat.add_zero, Nat.reduceAdd, Nat.reduceMul, Nat.zero_mul, Value.cells, List.toList_toArray, zerosA, List.replicate, List.flatten, List.append_nil]; done)) (by (dsimp only [List.set, List.append, List.cons_append, List.nil_append, roB_cells, roI_cells, roO_cells, splice, ofConst, AV.cells, List.map, List.map_cons, List.map_nil, List.take, List.drop, Nat.zero_add, Nat.add_zero, Nat.reduceAdd, Nat.reduceMul, Nat.zero_mul, Value.cells, List.toList_toArray, zerosA, List.replicate, List.flatten, List.append_nil]; done)) ?_)
    refine AO.op (O.assign rfl rfl) rfl rfl rfl ?_
    refine AO.nil ?_
    refine AQ.thenN ?_
    refine AW.seq ?_
    refine AW.seq ?_
    refine AW.region ?_
    refine AO.op (O.move rfl rfl) rfl rfl rfl ?_
    refine AO.op (O.neq rfl rfl rfl (by rfl)) rfl rfl rfl ?_
    refine AO.nil ?_
    refine AQ.thenN ?_
    refine AW.split rfl (fun h8 => ?_) (fun h8 => ?_) <;> (try simp only [decide_eq_true_eq, decide_eq_false_iff_not, beq_iff_eq, beq_eq_false_iff_ne, bne_iff_ne, bne_eq_false_iff_eq, Bool.not_eq_true', Bool.not_eq_false', Bool.not_eq_true, Bool.not_eq_false, ne_eq, Int.not_lt, Int.not_le, Bool.and_eq_true, Bool.or_eq_true, Bool.or_eq_false_iff, Bool.and_eq_false_imp, strOf_toList, Decidable.not_not] at h8)
    · skip
      refine AW.seq ?_
      refine AW.region ?_
      refine AO.op (O.assign rfl rfl) rfl rfl rfl ?_
      refine AO.nil ?_
      refine AQ.thenN ?_
      refine AW.ret ?_
      refine AQ.thenR ?_
      refine AQ.ret1 rfl rfl ⟨_, List.nil_sublist _, .nil⟩ (⟨rfl, rfl⟩)
    · skip
      have hpk2 := pack_fn (unpackR x10).1
      rw [un_pack x10 h8] at hpk2
      refine AW.skip ?_
      refine AQ.thenN ?_
      refine AW.seq ?_
      refine AW.region ?_
      refine AO.op (O.loadK rfl rfl (by repeat (exact List.Mem.head _)) (by rfl) (by rfl)) rfl rfl rfl ?_
      refine AO.op (O.call rfl Try.func28 rfl rfl rfl (hpk2)) rfl rfl rfl ?_
      refine AO.op (O.move rfl rfl) rfl rfl rfl ?_
      refine AO.op (O.extract rfl rfl rfl) rfl rfl rfl ?_
      refine AO.op (O.extract rfl rfl rfl) rfl rfl rfl ?_
      refine AO.op (O.assign rfl rfl) rfl rfl rfl ?_
      refine AO.op (O.assign rfl rfl) rfl rfl rfl ?_
      refine AO.nil ?_
      refine AQ.thenN ?_
      refine AW.seq ?_
      refine AW.region ?_
      refine AO.op (O.move rfl rfl) rfl rfl rfl ?_
      refine AO.op (O.eql rfl rfl rfl (by exact beq_iff_eq.2 (by omega))) rfl rfl rfl ?_
      refine AO.op (O.move rfl rfl) rfl rfl rfl ?_
      refine AO.opG rfl rfl rfl (fun hp => O.move rfl rfl) ?_
      refine AO.opG rfl rfl rfl (fun hp => O.move rfl rfl) ?_
      refine AO.opG rfl rfl rfl (fun hp => OpW.force 115 rfl (by exact hp) (OpW.force 116 rfl (by exact hp) (O.call rfl Try.func30 rfl rfl rfl (equal26_fn x10 x10)))) ?_
      refine AO.op (O.pickAnd rfl rfl rfl rfl (fun h => by exact h)) rfl rfl rfl ?_
      refine AO.op (O.assign rfl rfl) rfl rfl rfl ?_
      refine AO.nil ?_
      refine AQ.thenN ?_
      refine AW.ret ?_
      refine AQ.ret1 rfl rfl ⟨_, List.nil_sublist _, .nil⟩ (⟨congrArg (fun z => AV.val (.bool z)) (by simp), rfl⟩)
end Go.Proofs.Ytbmndjjaaeambaa.By

namespace Go.Proofs.Ytbmndjjaaeambaa.A
open Go.ChangeShapes Go.WideShapes Go.ChangeAt Go.RowKit Go.Deep L
set_option linter.unusedVariables false
set_option linter.unusedSimpArgs false

theorem own : ownKnob Try.prog.godebug = none := by kernel_rfl
theorem kids : Kids Try.prog (· < Try.prog.types.size) := kids_rows (by kernel_rfl) (by kernel_rfl)
theorem full : ∀ t e, t < Try.prog.types.size → Try.prog.underlying t = some (.slice e) → 0 < Try.prog.cellsOf e := slices_full_of Try.prog (by kernel_rfl)

theorem sameAt_ext {W W' : World} (h : Ext W W') (p : MemPlace) (hp : p.block < W.heap.size) : W.sameAt W' p := by
  have hb : W'.heap[p.block]? = W.heap[p.block]? := h.block _ hp (fun hh => hh)
  cases p with
  | cell b off => exact World.cell?_of_block (w := W) (a := ⟨b, off, none⟩) hb
  | map b => exact hb

section
variable {H : Type} {enc : TypeId × Value → H}
theorem trodAll_carry {P : Program} {W W' : World} {base : Nat} {spare : Nat → Bool} {held : Bool} : ∀ {ts : List TypeId} {vs : List Value} {ds : List (DataW H)} {ps : List MemPlace},
    DataW.TrodAll enc P W base spare held ts vs ds ps → (∀ p ∈ ps, W.sameAt W' p) → DataW.TrodAll enc P W' base spare held ts vs ds ps
  | [], [], [], _, h, _ => h
  | _ :: _, _ :: _, _ :: _, _, ⟨p, q, ⟨n, h1⟩, h2, e⟩, hs => ⟨p, q, ⟨n, DataW.trod_carry n _ _ _ h1 (fun x hx => hs x (by rw [e]; exact List.mem_append_left _ hx))⟩, trodAll_carry h2 (fun x hx => hs x (by rw [e]; exact List.mem_append_right _ hx)), e⟩

/-- A law: it returned true, and nothing that was there has turned. -/
theorem lawPost {fn : Func} {s : ChangeSpec} {W W' : World} {args : Array Value} {ds gs : List (DataW H)} {before : List MemPlace} {bt : TypeId}
    (hW : DataW.Whole enc Try.prog fn.params.toList s.vars false W args.toList ds gs before) (hv : s.vars = []) (hfn : s.fn H (ds ++ gs) = { results := [.lit (.bool true)], args := ds }) (hres : fn.resultTypes = #[bt]) (hbt : Try.prog.underlying bt = some .bool)
    (hpar : ∀ t ∈ fn.params.toList, t < Try.prog.types.size) (hE : Ext W W') : s.post enc Try.prog fn false true false false W args (.bool true) W' := by
  have hold : ∀ p ∈ before, (fun b => decide (b < W.heap.size)) p.block = true := fun p hp => by simpa using hW.lt p hp
  have hlt := hW.lt
  have hW' := hW
  obtain ⟨pa, pv, hA, hV, rfl, hz, hn⟩ := hW
  rw [hv] at hV
  obtain ⟨rfl, rfl⟩ := trodVars_none hV
  have hA' : DataW.TrodAll enc Try.prog W' 0 (fun _ => true) true fn.params.toList args.toList ds pa := trodAll_carry hA fun p hp => sameAt_ext hE p (hlt p (List.mem_append_left _ hp))
  have hargs : ∀ sp : Nat → Bool, (∀ p ∈ pa ++ [], sp p.block = true) → DataW.TrodAll enc Try.prog W' 0 sp true fn.params.toList args.toList ds pa := fun sp hsp =>
    DataW.TrodAll.respare kids full hpar hA' fun p hp => hsp p (by simpa using hp)
  have hres' : ∀ (b : Nat) (sp : Nat → Bool) (hd : Bool), DataW.TrodAll enc Try.prog W' b sp hd fn.resultTypes.toList ((Value.bool true).resultList fn.resultTypes.size) [.lit (.bool true)] [] := fun b sp hd => by
    rw [hres]; exact trodAll_cons_mk (shut_bool hbt true) trodAll_mk0
  refine ⟨ds, [], pa ++ [], [], pa, [], hW', by rw [hfn]; exact hres' _ _ _, by rw [hfn]; exact hargs _ hold, by rw [hfn, hv]; rfl, World.keptBut_mono (fun p hp => ⟨hp, ?_⟩) ((hE.toBelow).frame (· ∈ pa ++ [])), fun h => by cases h⟩
  exact Or.inr (by simpa using hp)

/-! ### How arguments read -/

def Old (W : World) : Nat → Prop := fun b => b < W.heap.size

variable {P : Program} {W : World}
/-- A reading of cells of a type as these. -/
theorem rd_int {base : Nat} {spare : Nat → Bool} {held : Bool} {t : TypeId} {k : IntKind} (ht : P.underlying t = some (.int k)) {n : Nat} {cs : List Value} {x : DataW H × List MemPlace} (h : DataW.trod enc P W base spare held n t cs = some x) :
    ∃ z : Int, (Lit.int k z).wf = true ∧ RelL (Old W) W [.val (.int k z)] cs := by
  cases n with
  | zero => simp [DataW.trod] at h
  | succ n =>
    obtain ⟨z, rfl, _, hw⟩ := DataW.trod_int ht h
    exact ⟨z, hw, RelL.cons (.val _) RelL.nil⟩

theorem rd_slice {α : Type} {enc' : α → List AV} {good : α → Prop} {base : Nat} {spare : Nat → Bool} {held : Bool} {t e : TypeId} (ht : P.underlying t = some (.slice e)) (hsz : ∀ a, (enc' a).length = P.cellsOf e) (hpos : 0 < P.cellsOf e)
    (he : ∀ (n : Nat) (cs : List Value) (x : DataW H × List MemPlace), cs.length = P.cellsOf e → DataW.trod enc P W base spare held n e cs = some x → ∃ a, good a ∧ RelL (Old W) W (enc' a) cs)
    {n : Nat} {cs : List Value} {x : DataW H × List MemPlace} (h : DataW.trod enc P W base spare held n t cs = some x) :
    ∃ l : List α, (∀ a ∈ l, good a) ∧ l.length ≤ maxLen ∧ RelL (Old W) W [.ro false l.length (l.flatMap enc')] cs := by
  rcases open_slice ht h with ⟨rfl, -⟩ | ⟨ad, len, cap, m, n', D, Pl, rfl, hb, hl, hm, hmm, hx, hi⟩
  · exact ⟨[], fun _ h => (by cases h), Nat.zero_le _, RelL.cons (.emp _ _ _ (fun h => by cases h) (Nat.zero_le _)) RelL.nil⟩
  · have hlm : len ≤ m := by rw [hmm]; split <;> omega
    have hex : ∀ i : Nat, ∃ a : Option α, i < len → ∃ a', a = some a' ∧ good a' ∧ ∃ cs', W.cells? base (ad.add (i * P.cellsOf e)) (P.cellsOf e) = some cs' ∧ RelL (Old W) W (enc' a') cs' := fun i => by
      by_cases hil : i < len
      · obtain ⟨cs', hc, htr⟩ := hi i (by omega)
        obtain ⟨_, hcl, _⟩ := World.cells?_some hc
        obtain ⟨a, hg, hr⟩ := he _ _ _ hcl htr
        exact ⟨some a, fun _ => ⟨a, rfl, hg, cs', hc, hr⟩⟩
      · exact ⟨none, fun h => absurd h hil⟩
    obtain ⟨f, hf⟩ := Classical.axiomOfChoice hex
    by_cases hlen0 : len = 0
    · subst hlen0
      exact ⟨[], fun _ h => (by cases h), Nat.zero_le _, RelL.cons (.emp _ _ _ (fun h => by cases h) hm) RelL.nil⟩
    · obtain ⟨a0, _, _⟩ := hf 0 (by omega)
      let g : Nat → α := fun i => (f i).getD a0
      have hg : ∀ i, i < len → good (g i) ∧ ∃ cs', W.cells? base (ad.add (i * P.cellsOf e)) (P.cellsOf e) = some cs' ∧ RelL (Old W) W (enc' (g i)) cs' := fun i hi' => by
        obtain ⟨a', ha', h1, h2⟩ := hf i hi'
        have : g i = a' := by simp [g, ha']
        rw [this]; exact ⟨h1, h2⟩
      have hflat : ∀ (len : Nat), (((List.range len).map g).flatMap enc').length = len * P.cellsOf e := by
        intro len
        induction len with
        | zero => simp
        | succ k ih => rw [List.range_succ, List.map_append, List.flatMap_append, List.length_append, ih]; simp [hsz, Nat.add_mul]
      have hflatget : ∀ (len i j : Nat), i < len → j < P.cellsOf e → (((List.range len).map g).flatMap enc')[i * P.cellsOf e + j]? = (enc' (g i))[j]? := by
        intro len
        induction len with
        | zero => intro i j h; omega
        | succ k ih =>
          intro i j h hj
          rw [List.range_succ, List.map_append, List.flatMap_append, List.getElem?_append]
          by_cases hik : i < k
          · have h1 : (i + 1) * P.cellsOf e ≤ k * P.cellsOf e := Nat.mul_le_mul_right _ (by omega)
            rw [Nat.add_mul] at h1
            rw [if_pos (by rw [hflat]; omega)]
            exact ih i j hik hj
          · have : i = k := by omega
            subst this
            rw [if_neg (by rw [hflat]; omega), hflat]
            simp
      have hblk : ad.spot = none ∧ ad.block < W.heap.size := by
        obtain ⟨_, cs', hc, _⟩ := hg 0 (by omega)
        obtain ⟨_, hcl, hat⟩ := World.cells?_some hc
        have h0 := hat 0 hpos
        simp only [Nat.zero_mul] at h0
        have h1 : W.cell? ad ≠ none := by
          intro hn
          rw [show (ad.add 0).add 0 = ad by simp [Addr.add]] at h0
          rw [hn] at h0
          have := (List.getElem?_eq_none_iff.1 h0.symm)
          omega
        refine ⟨?_, ?_⟩
        · cases hsp : ad.spot with
          | none => rfl
          | some _ => exfalso; apply h1; unfold World.cell?; split <;> simp [hsp]
        · cases hc : W.cell? ad with
          | none => exact absurd hc h1
          | some u => exact World.block_lt_of_cell? W ad hc
      obtain ⟨b, off, sp⟩ := ad
      obtain ⟨rfl, hblt⟩ := hblk
      have hcell : ∀ i j, i < len → j < P.cellsOf e → ∃ u, W.cell? ⟨b, off + (i * P.cellsOf e + j), none⟩ = some u ∧ ∃ x, (enc' (g i))[j]? = some x ∧ RelV (Old W) W x u := fun i j hi' hj => by
        obtain ⟨_, cs', hc, hr⟩ := hg i hi'
        obtain ⟨_, hcl, hat⟩ := World.cells?_some hc
        have h0 := hat j hj
        rw [addr_add, addr_add] at h0
        have hjl : j < cs'.length := by omega
        have hjx : j < (enc' (g i)).length := by rw [hsz]; exact hj
        refine ⟨cs'[j], by rw [← Nat.add_assoc, h0]; simp [hjl], (enc' (g i))[j], by simp [hjx], ?_⟩
        have := hr.2 j hjx
        simpa [hjl] using this
      refine ⟨(List.range len).map g, fun a ha => ?_, by simp; omega, RelL.cons ?_ RelL.nil⟩
      · obtain ⟨i, hi', rfl⟩ := List.mem_map.1 ha
        exact (hg i (List.mem_range.1 hi')).1
      · rw [List.length_map, List.length_range]
        have hq : ∀ j, j < (((List.range len).map g).flatMap enc').length → ∃ u, W.cell? ⟨b, off + j, none⟩ = some u ∧ ∃ x, (((List.range len).map g).flatMap enc')[j]? = some x ∧ RelV (Old W) W x u := fun j hj => by
          rw [hflat] at hj
          have h1 : j / P.cellsOf e < len := (Nat.div_lt_iff_lt_mul hpos).2 hj
          have h2 := Nat.mod_lt j hpos
          have h3 : j / P.cellsOf e * P.cellsOf e + j % P.cellsOf e = j := by rw [Nat.mul_comm]; exact Nat.div_add_mod j _
          obtain ⟨u, hu, x, hx', hr⟩ := hcell (j / P.cellsOf e) (j % P.cellsOf e) h1 h2
          rw [h3] at hu
          refine ⟨u, hu, x, ?_, hr⟩
          have := hflatget len _ _ h1 h2
          rw [h3] at this
          rw [this, hx']
        refine .ro false len _ b off cap (fun j => (W.cell? ⟨b, off + j, none⟩).getD undef) hblt (fun j hj => ?_) (fun j hj => ?_) hl hm (fun h => by cases h)
        · obtain ⟨u, hu, _⟩ := hq j hj
          rw [hu]; rfl
        · obtain ⟨u, hu, x, hx', hr⟩ := hq j hj
          rw [hu]
          simp only [Option.getD_some]
          have : x = (((List.range len).map g).flatMap enc')[j] := by
            rw [List.getElem?_eq_getElem hj] at hx'; exact (Option.some.inj hx').symm
          rw [← this]; exact hr

theorem flatMap_one {α : Type} (f : α → AV) (l : List α) : l.flatMap (fun a => [f a]) = l.map f := by
  induction l with
  | nil => rfl
  | cons a l ih => simp [List.flatMap_cons, ih]

theorem rd_ints {base : Nat} {spare : Nat → Bool} {held : Bool} {t e : TypeId} {k : IntKind} (ht : P.underlying t = some (.slice e)) (he : P.underlying e = some (.int k)) (h1 : P.cellsOf e = 1) {n : Nat} {cs : List Value} {x : DataW H × List MemPlace} (h : DataW.trod enc P W base spare held n t cs = some x) :
    ∃ l : List Int, (∀ z ∈ l, (Lit.int k z).wf = true) ∧ l.length ≤ maxLen ∧ RelL (Old W) W [.ro false l.length (intsA k l)] cs := by
  obtain ⟨l, h2, h3, h4⟩ := rd_slice (enc' := fun z : Int => [.val (.int k z)]) (good := fun z => (Lit.int k z).wf = true) ht (fun _ => h1.symm) (by omega) (fun n cs x _ h => rd_int he h) h
  rw [flatMap_one] at h4
  exact ⟨l, h2, h3, h4⟩
theorem rd_bytes {base : Nat} {spare : Nat → Bool} {held : Bool} {t e : TypeId} (ht : P.underlying t = some (.slice e)) (he : P.underlying e = some (.int .u8)) (h1 : P.cellsOf e = 1) {n : Nat} {cs : List Value} {x : DataW H × List MemPlace} (h : DataW.trod enc P W base spare held n t cs = some x) :
    ∃ l : List UInt8, l.length ≤ maxLen ∧ RelL (Old W) W [roB l] cs := by
  obtain ⟨l, h2, h3, h4⟩ := rd_ints ht he h1 h
  have hb : ∃ m : List UInt8, l = m.map fun b => ((b.toNat : Nat) : Int) := by
    clear h h3 h4
    induction l with
    | nil => exact ⟨[], rfl⟩
    | cons z l ih =>
      obtain ⟨m, rfl⟩ := ih fun z hz => h2 z (List.mem_cons_of_mem _ hz)
      have hz := h2 z (List.mem_cons_self ..)
      have hz' : 0 ≤ z ∧ z ≤ 255 := by simpa [Lit.wf, IntKind.min, IntKind.max, IntKind.signed, IntKind.bits] using hz
      refine ⟨UInt8.ofNat z.toNat :: m, ?_⟩
      simp only [List.map_cons, List.cons.injEq, and_true]
      rw [UInt8.toNat_ofNat_of_lt' (by simp [UInt8.size]; omega)]
      omega
  obtain ⟨m, rfl⟩ := hb
  refine ⟨m, by simpa using h3, ?_⟩
  simpa [roB, bytesA, intsA, Function.comp_def] using h4

theorem relV_of_one {R : Nat → Prop} {a : AV} {v : Value} (hc : v.cells.toList = [v]) (h : RelL R W [a] v.cells.toList) : RelV R W a v := by
  rw [hc] at h
  obtain ⟨u, r, he, h1, _⟩ := h.uncons
  cases he
  exact h1
end
end Go.Proofs.Ytbmndjjaaeambaa.A

namespace Go.Proofs.Ytbmndjjaaeambaa.A
open Go.ChangeShapes Go.WideShapes Go.ChangeAt Go.RowKit L
set_option linter.unusedVariables false
set_option linter.unusedSimpArgs false
section
variable {P : Program}

/-- Arguments of this type read as one of these. -/
def Reads (P : Program) (t : TypeId) (φ : AV → Prop) : Prop :=
  ∀ (H : Type) (enc : TypeId × Value → H) (W : World) (base b0 : Nat) (spare : Nat → Bool) (held : Bool) (v : Value) (d : DataW H) (p : List MemPlace),
    Value.okWide P W .any b0 t v → DataW.Trod enc P W base spare held t v d p → ∃ x, φ x ∧ RelV (Old W) W x v
/-- Cells of this type read as one of these. -/
structure RdC (P : Program) (t : TypeId) {α : Type} (f : α → List AV) (good : α → Prop) : Prop where
  len : ∀ a, (f a).length = P.cellsOf t
  rd : ∀ (H : Type) (enc : TypeId × Value → H) (W : World) (base : Nat) (spare : Nat → Bool) (held : Bool) (n : Nat) (cs : List Value) (x : DataW H × List MemPlace),
    DataW.trod enc P W base spare held n t cs = some x → ∃ a, good a ∧ RelL (Old W) W (f a) cs

theorem okw_int {W : World} {r : Reach} {b : Nat} {t : TypeId} {k : IntKind} (ht : P.underlying t = some (.int k)) {v : Value} (h : Value.okWide P W r b t v) : v.cells.toList = [v] := by
  cases v <;> simp [Value.okWide, ht, Cell.okWide, Cell.ok] at h <;> rfl
theorem okw_slice {W : World} {r : Reach} {b : Nat} {t e : TypeId} (ht : P.underlying t = some (.slice e)) {v : Value} (h : Value.okWide P W r b t v) : v.cells.toList = [v] := by
  cases v <;> simp [Value.okWide, ht, Cell.okWide, Cell.ok] at h <;> rfl
theorem okw_bool {W : World} {r : Reach} {b : Nat} {t : TypeId} (ht : P.underlying t = some .bool) {v : Value} (h : Value.okWide P W r b t v) : v.cells.toList = [v] := by
  cases v <;> simp [Value.okWide, ht, Cell.okWide, Cell.ok] at h <;> rfl
theorem RelL.glue {R : Nat → Prop} {W : World} {xs ys : List AV} {cs : List Value} {o k : Nat} (h1 : RelL R W xs ((cs.drop o).take k)) (h2 : RelL R W ys (cs.drop (o + k))) : RelL R W (xs ++ ys) (cs.drop o) := by
  have := h1.app h2
  rwa [show (cs.drop o).take k ++ cs.drop (o + k) = cs.drop o by rw [← List.drop_drop, List.take_append_drop]] at this
theorem RdC.int {t : TypeId} {k : IntKind} (ht : P.underlying t = some (.int k)) (h1 : P.cellsOf t = 1) : RdC P t (fun z : Int => [.val (.int k z)]) (fun z => (Lit.int k z).wf = true) :=
  ⟨fun _ => h1.symm, fun H enc W base spare held n cs x h => rd_int ht h⟩
theorem RdC.bool {t : TypeId} (ht : P.underlying t = some .bool) (h1 : P.cellsOf t = 1) : RdC P t (fun z : Bool => [.val (.bool z)]) (fun _ => True) :=
  ⟨fun _ => h1.symm, fun H enc W base spare held n cs x h => by
    obtain ⟨b, rfl, _⟩ := DataW.trod_bool ht h
    exact ⟨b, trivial, RelL.cons (.val _) RelL.nil⟩⟩
theorem RdC.string {t : TypeId} (ht : P.underlying t = some .string) (h1 : P.cellsOf t = 1) : RdC P t (fun s : ByteArray => [.val (.string s)]) (fun s => s.size ≤ maxLen) :=
  ⟨fun _ => h1.symm, fun H enc W base spare held n cs x h => by
    obtain ⟨b, rfl, _, hs⟩ := DataW.trod_string ht h
    exact ⟨b, hs, RelL.cons (.val _) RelL.nil⟩⟩
theorem RdC.slice {t e : TypeId} {α : Type} {f : α → List AV} {good : α → Prop} (ht : P.underlying t = some (.slice e)) (h1 : P.cellsOf t = 1) (hpos : 0 < P.cellsOf e) (h : RdC P e f good) :
    RdC P t (fun l : List α => [.ro false l.length (l.flatMap f)]) (fun l => (∀ a ∈ l, good a) ∧ l.length ≤ maxLen) :=
  ⟨fun _ => h1.symm, fun H enc W base spare held n cs x hx => by
    obtain ⟨l, h2, h3, h4⟩ := rd_slice ht h.len hpos (fun n cs x _ hx => h.rd H enc W base spare held n cs x hx) hx
    exact ⟨l, ⟨h2, h3⟩, h4⟩⟩
theorem RdC.bytes {t e : TypeId} (ht : P.underlying t = some (.slice e)) (he : P.underlying e = some (.int .u8)) (h1 : P.cellsOf t = 1) (h2 : P.cellsOf e = 1) : RdC P t (fun l : List UInt8 => [roB l]) (fun l => l.length ≤ maxLen) :=
  ⟨fun _ => h1.symm, fun H enc W base spare held n cs x hx => rd_bytes ht he h2 hx⟩
theorem RdC.ints {t e : TypeId} {k : IntKind} (ht : P.underlying t = some (.slice e)) (he : P.underlying e = some (.int k)) (h1 : P.cellsOf t = 1) (h2 : P.cellsOf e = 1) :
    RdC P t (fun l : List Int => [.ro false l.length (intsA k l)]) (fun l => (∀ z ∈ l, (Lit.int k z).wf = true) ∧ l.length ≤ maxLen) :=
  ⟨fun _ => h1.symm, fun H enc W base spare held n cs x hx => by
    obtain ⟨l, h3, h4, h5⟩ := rd_ints ht he h2 hx
    exact ⟨l, ⟨h3, h4⟩, h5⟩⟩
/-- Fields, one after the other, from cell o on. -/
structure FR (P : Program) (fs : List Field) (o m : Nat) {α : Type} (f : α → List AV) (good : α → Prop) : Prop where
  len : ∀ a, (f a).length = m
  rd : ∀ (H : Type) (enc : TypeId × Value → H) (W : World) (base : Nat) (spare : Nat → Bool) (held : Bool) (cs : List Value), cs.length = o + m →
    (∀ fd ∈ fs, ∃ (n : Nat) (y : DataW H × List MemPlace), DataW.trod enc P W base spare held n fd.type ((cs.drop fd.offset).take (P.cellsOf fd.type)) = some y) → ∃ a, good a ∧ RelL (Old W) W (f a) (cs.drop o)
theorem FR.nil {o : Nat} : FR P [] o 0 (fun _ : Unit => []) (fun _ => True) :=
  ⟨fun _ => rfl, fun H enc W base spare held cs hl _ => ⟨(), trivial, by rw [List.drop_of_length_le (by omega)]; exact RelL.nil⟩⟩
theorem FR.cons {fd : Field} {fs : List Field} {o k m : Nat} {α β : Type} {f : α → List AV} {good : α → Prop} {g : β → List AV} {good' : β → Prop} (h : RdC P fd.type f good) (ho : fd.offset = o) (hk : P.cellsOf fd.type = k) (hs : FR P fs (o + k) m g good') :
    FR P (fd :: fs) o (k + m) (fun p : α × β => f p.1 ++ g p.2) (fun p => good p.1 ∧ good' p.2) :=
  ⟨fun p => by rw [List.length_append, h.len, hs.len, hk], fun H enc W base spare held cs hl hall => by
    obtain ⟨n, y, h1⟩ := hall fd (List.mem_cons_self ..)
    rw [ho, hk] at h1
    obtain ⟨a, h2, h3⟩ := h.rd H enc W base spare held _ _ _ h1
    obtain ⟨b, h4, h5⟩ := hs.rd H enc W base spare held cs (by omega) (fun fd hfd => hall fd (List.mem_cons_of_mem _ hfd))
    exact ⟨(a, b), ⟨h2, h4⟩, RelL.glue h3 h5⟩⟩
theorem RdC.struct {t : TypeId} {fs : List Field} {m : Nat} {α : Type} {f : α → List AV} {good : α → Prop} (ht : P.underlying t = some (.struct fs.toArray)) (hm : P.cellsOf t = m) (h : FR P fs 0 m f good) : RdC P t f good :=
  ⟨fun a => by rw [h.len, hm], fun H enc W base spare held n cs x hx => by
    obtain ⟨xs, n', _, _, hl, hlen, hf⟩ := DataW.trod_struct ht hx
    obtain ⟨a, h1, h2⟩ := h.rd H enc W base spare held cs (by omega) (fun fd hfd => by
      obtain ⟨i, hi, rfl⟩ := List.getElem_of_mem hfd
      have h0 := hf i fs[i] (by simp [hi])
      have hxi : i < xs.length := by rw [hlen]; simpa using hi
      rw [List.getElem?_eq_getElem hxi] at h0
      exact ⟨n', _, h0⟩)
    exact ⟨a, h1, by simpa using h2⟩⟩
theorem RdC.map {t : TypeId} {α β : Type} {f : α → List AV} {good : α → Prop} {g : β → List AV} {good' : β → Prop} (h : RdC P t f good) (φ : α → β) (hφ : ∀ a, good a → good' (φ a) ∧ f a = g (φ a)) (hl : ∀ b, (g b).length = P.cellsOf t) : RdC P t g good' :=
  ⟨hl, fun H enc W base spare held n cs x hx => by
    obtain ⟨a, h1, h2⟩ := h.rd H enc W base spare held n cs x hx
    exact ⟨φ a, (hφ a h1).1, (hφ a h1).2 ▸ h2⟩⟩
theorem RdC.reads {t : TypeId} {α : Type} {f : α → List AV} {good : α → Prop} (h : RdC P t f good) (g : α → AV) (hg : ∀ a, f a = [g a]) (hw : ∀ (W : World) (b : Nat) (v : Value), Value.okWide P W .any b t v → v.cells.toList = [v]) : Reads P t (fun x => ∃ a, good a ∧ x = g a) :=
  fun H enc W base b0 spare held v d p hv ⟨n, hx⟩ => by
    obtain ⟨a, h1, h2⟩ := h.rd H enc W base spare held n _ _ hx
    rw [hg] at h2
    exact ⟨g a, ⟨a, h1, rfl⟩, relV_of_one (hw _ _ _ hv) h2⟩
theorem Reads.int {t : TypeId} {k : IntKind} (ht : P.underlying t = some (.int k)) (h1 : P.cellsOf t = 1) : Reads P t (fun x => ∃ z : Int, (Lit.int k z).wf = true ∧ x = .val (.int k z)) := (RdC.int ht h1).reads (fun z => .val (.int k z)) (fun _ => rfl) (fun _ _ _ h => okw_int ht h)
theorem Reads.bool {t : TypeId} (ht : P.underlying t = some .bool) (h1 : P.cellsOf t = 1) : Reads P t (fun x => ∃ z : Bool, True ∧ x = .val (.bool z)) := (RdC.bool ht h1).reads (fun z => .val (.bool z)) (fun _ => rfl) (fun _ _ _ h => okw_bool ht h)
theorem Reads.bytes {t e : TypeId} (ht : P.underlying t = some (.slice e)) (he : P.underlying e = some (.int .u8)) (h1 : P.cellsOf t = 1) (h2 : P.cellsOf e = 1) : Reads P t (fun x => ∃ l : List UInt8, l.length ≤ maxLen ∧ x = roB l) := (RdC.bytes ht he h1 h2).reads roB (fun _ => rfl) (fun _ _ _ h => okw_slice ht h)
theorem Reads.ints {t e : TypeId} {k : IntKind} (ht : P.underlying t = some (.slice e)) (he : P.underlying e = some (.int k)) (h1 : P.cellsOf t = 1) (h2 : P.cellsOf e = 1) :
    Reads P t (fun x => ∃ l : List Int, ((∀ z ∈ l, (Lit.int k z).wf = true) ∧ l.length ≤ maxLen) ∧ x = .ro false l.length (intsA k l)) := (RdC.ints ht he h1 h2).reads (fun l => .ro false l.length (intsA k l)) (fun _ => rfl) (fun _ _ _ h => okw_slice ht h)
theorem Reads.slice {t e : TypeId} {α : Type} {f : α → List AV} {good : α → Prop} (ht : P.underlying t = some (.slice e)) (h1 : P.cellsOf t = 1) (hpos : 0 < P.cellsOf e) (h : RdC P e f good) :
    Reads P t (fun x => ∃ l : List α, ((∀ a ∈ l, good a) ∧ l.length ≤ maxLen) ∧ x = .ro false l.length (l.flatMap f)) := (RdC.slice ht h1 hpos h).reads (fun l => .ro false l.length (l.flatMap f)) (fun _ => rfl) (fun _ _ _ h => okw_slice ht h)

/-- All arguments. -/
def ReadsL (P : Program) : List TypeId → List (AV → Prop) → Prop
  | [], [] => True
  | t :: ts, φ :: φs => Reads P t φ ∧ ReadsL P ts φs
  | _, _ => False
theorem ReadsL.nil : ReadsL P [] [] := trivial
theorem ReadsL.cons {t : TypeId} {ts : List TypeId} {φ : AV → Prop} {φs : List (AV → Prop)} (h : Reads P t φ) (hs : ReadsL P ts φs) : ReadsL P (t :: ts) (φ :: φs) := ⟨h, hs⟩
def AllOf : List (AV → Prop) → (List AV → Prop) → Prop
  | [], K => K []
  | φ :: φs, K => ∀ x, φ x → AllOf φs (fun xs => K (x :: xs))

theorem readAll {H : Type} {enc : TypeId × Value → H} {W : World} {base b0 : Nat} {spare : Nat → Bool} {held : Bool} : ∀ {ts : List TypeId} {φs : List (AV → Prop)} {K : List AV → Prop} {vs : List Value} {ds : List (DataW H)} {ps : List MemPlace},
    ReadsL P ts φs → AllOf φs K → (∀ (j : Nat) t v, ts[j]? = some t → vs[j]? = some v → Value.okWide P W .any b0 t v) → DataW.TrodAll enc P W base spare held ts vs ds ps → ∃ xs, K xs ∧ RelL (Old W) W xs vs
  | [], [], K, vs, ds, ps, _, hK, _, hT => by
    obtain ⟨rfl, _, _⟩ := trodAll_nil hT
    exact ⟨[], hK, RelL.nil⟩
  | [], _ :: _, _, _, _, _, h, _, _, _ => h.elim
  | _ :: _, [], _, _, _, _, h, _, _, _ => h.elim
  | t :: ts, φ :: φs, K, vs, ds, ps, h, hK, hv, hT => by
    obtain ⟨v0, vs0, d0, ds0, p0, q0, rfl, rfl, rfl, h0, r0⟩ := trodAll_cons hT
    obtain ⟨x, h1, h2⟩ := h.1 H enc W base b0 spare held v0 d0 p0 (hv 0 t v0 rfl rfl) h0
    obtain ⟨xs, h3, h4⟩ := readAll h.2 (hK x h1) (fun j t v a b => hv (j + 1) t v a b) r0
    exact ⟨x :: xs, h3, RelL.cons h2 h4⟩
end

theorem law_contract {f : FuncId} {fn : Func} {s : ChangeSpec} {H : Type} (enc : TypeId × Value → H) {ts : List TypeId} {φs : List (AV → Prop)} (hp : fn.params.toList = ts) (hr : ReadsL Try.prog ts φs)
    (h : AllOf φs fun xs => Sp Try.prog f xs [] (Is (.val (.bool true)))) {W : World} {base : Nat} {args : Array Value} {ds gs : List (DataW H)} {before : List MemPlace}
    (hval : ∀ (j : Nat) t v, fn.params[j]? = some t → args[j]? = some v → Value.okWide Try.prog W .any base t v)
    (hW : DataW.Whole enc Try.prog fn.params.toList s.vars false W args.toList ds gs before)
    (post : ∀ W', Ext W W' → s.post enc Try.prog fn false true false false W args (.bool true) W') :
    Calls Try.prog f args W fun e W' => ∃ v, e = .returned v ∧ s.post enc Try.prog fn false true false false W args v W' := by
  obtain ⟨p, q, hA, hV, rfl, hfz, hnd⟩ := hW
  rw [hp] at hA
  obtain ⟨xs, hS, hR⟩ := readAll (b0 := base) hr h (fun j t v h1 h2 => hval j t v (by rw [← Array.getElem?_toList, hp]; exact h1) (by rw [← Array.getElem?_toList]; exact h2)) hA
  have hc := hS W (Old W) args.toList (fun b hb => hb) (fun e he => by cases he) .nil hR
  rw [Array.toArray_toList] at hc
  refine hc.mono ?_
  rintro e W' ⟨u, r, H', R', rfl, ⟨rfl, rfl⟩, hs, hv⟩
  obtain rfl := hv.val_inv
  exact ⟨_, rfl, post W' (hs.mods.mono fun b _ ⟨e, he, _⟩ => by cases he)⟩
end Go.Proofs.Ytbmndjjaaeambaa.A

namespace Go.Proofs.Ytbmndjjaaeambaa.By
open Go.RowKit L A
set_option linter.unusedVariables false
theorem i64_in {z : Int} (h : (Lit.int .i64 z).wf = true) : -9223372036854775808 ≤ z ∧ z ≤ 9223372036854775807 := by
  simpa [Lit.wf, IntKind.min, IntKind.max, IntKind.signed, IntKind.bits] using h
def GoodO (o : Opt) : Prop := (Lit.int .i64 o.num).wf = true ∧ o.val.length ≤ maxLen
def GoodM (m : Msg) : Prop := ((Lit.int .i64 m.ty).wf = true ∧ (Lit.int .i64 m.code).wf = true ∧ (Lit.int .i64 m.id).wf = true) ∧ m.tok.length ≤ maxLen ∧ ((∀ o ∈ m.opts, GoodO o) ∧ m.opts.length ≤ maxLen) ∧ m.pay.length ≤ maxLen
end Go.Proofs.Ytbmndjjaaeambaa.By

namespace Go.Proofs.Ytbmndjjaaeambaa.LwB
open Go.ChangeShapes Go.WideShapes Go.ChangeAt Go.RowKit L A By
set_option linter.unusedVariables false

theorem contract (H : Type) (enc : TypeId × Value → H) (W : World) (base : Nat) (args : Array Value) (ds gs : List (DataW H)) (before : List MemPlace)
    (hval : ∀ (j : Nat) t v, Try.f8.params[j]? = some t → args[j]? = some v → Value.okWide Try.prog W .any base t v)
    (hW : DataW.Whole enc Try.prog Try.f8.params.toList Rows.splitBackSpec.vars false W args.toList ds gs before) :
    Calls Try.prog 8 args W fun e W' => ∃ v, e = .returned v ∧ Rows.splitBackSpec.post enc Try.prog Try.f8 false true false false W args v W' := by
  have hW' := hW
  obtain ⟨p, q, hA0, hV, rfl, hfz, hnd⟩ := hW
  have hA : DataW.TrodAll enc Try.prog W 0 (fun _ => true) true Try.f8.params.toList args.toList ds p := hA0
  rw [Try.params8] at hA
  obtain ⟨v0, vs0, d0, ds0, p0, q0, ha0, rfl, hp0, h0, r0⟩ := trodAll_cons hA
  obtain ⟨v1, vs1, d1, ds1, p1, q1, ha1, rfl, hp1, h1, r1⟩ := trodAll_cons r0
  obtain ⟨v2, vs2, d2, ds2, p2, q2, ha2, rfl, hp2, h2, r2⟩ := trodAll_cons r1
  obtain ⟨v3, vs3, d3, ds3, p3, q3, ha3, rfl, hp3, h3, r3⟩ := trodAll_cons r2
  obtain ⟨-, rfl, -⟩ := trodAll_nil r3
  obtain ⟨rfl, rfl⟩ := trodVars_none hV
  refine law_contract enc (ts := [30, 3, 3, 4]) (by rw [Try.params8]) (ReadsL.cons (Reads.ints Try.underlying30 Try.underlying3 (by kernel_rfl) (by kernel_rfl)) (ReadsL.cons (Reads.int Try.underlying3 (by kernel_rfl)) (ReadsL.cons (Reads.int Try.underlying3 (by kernel_rfl)) (ReadsL.cons (Reads.bool Try.underlying4 (by kernel_rfl)) (ReadsL.nil))))) (φs := [_, _, _, _]) ?_ hval hW' (fun W' hE => lawPost hW' rfl rfl rfl Try.underlying4 (by rw [Try.params8]; decide) hE)
  rintro _ ⟨x0, h0, rfl⟩ _ ⟨x1, h1, rfl⟩ _ ⟨x2, h2, rfl⟩ _ ⟨x3, h3, rfl⟩
  exact lawBack_fn x0 x1 x2 x3 h0.2 (i64_in h2)

set_option maxRecDepth 100000 in
theorem lifted (os : Os) (started : os.Started) (H : Type) (enc : TypeId × Value → H) :
    ReturnsInHanded {} Try.checked os 8 .any (Rows.splitBackSpec.pre6 enc Try.prog Try.f8 Rows.splitBackRow.domain false) (Rows.splitBackSpec.post enc Try.prog Try.f8 false true false false) := by
  refine returnsInHanded_of_change (C := Try.checked) own started (by kernel_rfl) Try.func8
    (ChangeSpec.witness6 (enc := enc) (C := Try.checked) false ⟨#[], #[.slice none 0 0, .int .i64 0, .int .i64 0, .bool false], []⟩ 8 (by kernel_rfl) (by kernel_rfl) (by kernel_rfl) (by kernel_rfl)) ?_
  intro W base args ds gs before hval hW _ _
  exact contract H enc W base args ds gs before hval hW

theorem over : Rows.splitBackRow.holds Try.pinned (OpenSpec.ofChange Rows.splitBackSpec) :=
  OpenClaim.holds_of_wide 8 Try.f8 rfl rfl rfl rfl rfl rfl rfl ⟨rfl, rfl, rfl, rfl, rfl⟩ rfl rfl rfl rfl rfl (by kernel_rfl) Try.func8 (by kernel_rfl)
    (of_decide_eq_true (by kernel_rfl)) (by unfold Func.isWrapper; first | (rw [if_pos (by decide +kernel)]; kernel_rfl) | (rw [if_neg (by decide +kernel)]; exact ⟨rfl, rfl⟩))
    (fun os started H enc _ => lifted os started H enc)
theorem splitBack : Rows.SplitBackSaid := over
end Go.Proofs.Ytbmndjjaaeambaa.LwB
