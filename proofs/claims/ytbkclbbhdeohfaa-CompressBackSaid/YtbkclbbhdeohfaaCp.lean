/-
  Layer 27: which values are valid, and their encoding, both.
-/
import Derived.Test.YtbkclbbhdeohfaaCb
namespace Go.Proofs.Ytbkclbbhdeohfaa.By
open Go.RowKit L A Dk
set_option linter.unusedVariables false
set_option linter.unusedSimpArgs false
attribute [local irreducible] AW AQ AO

structure Cmp where
  piv : Int
  hasKid : Bool
  kid : List UInt8
  hasCtx : Bool
  ctx : List UInt8
  group : Bool
  deriving DecidableEq
abbrev aggC (c : Cmp) : AV := .agg [.val (.int .i64 c.piv), .val (.bool c.hasKid), roB c.kid, .val (.bool c.hasCtx), roB c.ctx, .val (.bool c.group)]
def ValC (c : Cmp) : Prop := (-1 ≤ c.piv ∧ c.piv ≤ 1099511627775 ∧ (c.kid.length : Int) ≤ 7 ∧ (c.ctx.length : Int) ≤ 16) ∧ (c.hasKid = true ∨ (c.kid.length : Int) = 0) ∧ (c.hasCtx = true ∨ (c.ctx.length : Int) = 0)
instance (c : Cmp) : Decidable (ValC c) := by unfold ValC; infer_instance

set_option maxHeartbeats 2000000 in
theorem cvalid_fn (c : Cmp) : Sp Try.prog 19 [aggC c] [] (Is (.val (.bool (decide (ValC c))))) := by
  obtain ⟨piv, hk, kid, hc, ctx, g⟩ := c
  refine Sp.enter Try.func19 rfl _ Try.ntmps19 rfl (fun w0 R0 => ?_)
  refine AW.seq ?_
  refine AW.region ?_
  refine AO.opB (O.box rfl rfl rfl rfl rfl) rfl rfl rfl ?_
  intro B
  refine AO.op (O.assign rfl rfl) rfl rfl rfl ?_
  refine AO.nil ?_
  refine AQ.thenN ?_
  refine AW.seq ?_
  refine AW.seq ?_
  refine AW.region ?_
  refine AO.op (O.fieldAddr rfl rfl) rfl rfl rfl ?_
  refine AO.op (O.load rfl rfl (by repeat (exact List.Mem.head _)) (by rfl)) rfl rfl rfl ?_
  refine AO.op (O.lss rfl rfl rfl (by rfl)) rfl rfl rfl ?_
  refine AO.op (O.move rfl rfl) rfl rfl rfl ?_
  refine AO.opG rfl rfl rfl (fun hp => O.fieldAddr rfl rfl) ?_
  refine AO.opG rfl rfl rfl (fun hp => OpW.force 7 rfl (by exact hp) (O.load rfl rfl (by repeat (exact List.Mem.head _)) (by rfl))) ?_
  refine AO.opG rfl rfl rfl (fun hp => OpW.force 8 rfl (by exact hp) (O.gtr rfl rfl rfl (by rfl))) ?_
  refine AO.op (O.pickOr rfl rfl rfl rfl (fun h => by exact congrArg (fun b => !b) h)) rfl rfl rfl ?_
  refine AO.op (O.move rfl rfl) rfl rfl rfl ?_
  refine AO.opG rfl rfl rfl (fun hp => O.fieldAddr rfl rfl) ?_
  refine AO.opG rfl rfl rfl (fun hp => OpW.force 12 rfl (by exact hp) (O.load rfl rfl (by repeat (exact List.Mem.head _)) (by rfl))) ?_
  refine AO.opG rfl rfl rfl (fun hp => OpW.force 13 rfl (by exact hp) (O.lenR rfl rfl)) ?_
  refine AO.opG rfl rfl rfl (fun hp => OpW.force 14 rfl (by exact hp) (O.gtr rfl rfl rfl (by rfl))) ?_
  refine AO.op (O.pickOr rfl rfl rfl rfl (fun h => by exact congrArg (fun b => !b) h)) rfl rfl rfl ?_
  refine AO.op (O.move rfl rfl) rfl rfl rfl ?_
  refine AO.opG rfl rfl rfl (fun hp => O.fieldAddr rfl rfl) ?_
  refine AO.opG rfl rfl rfl (fun hp => OpW.force 18 rfl (by exact hp) (O.load rfl rfl (by repeat (exact List.Mem.head _)) (by rfl))) ?_
  refine AO.opG rfl rfl rfl (fun hp => OpW.force 19 rfl (by exact hp) (O.lenR rfl rfl)) ?_
  refine AO.opG rfl rfl rfl (fun hp => OpW.force 20 rfl (by exact hp) (O.gtr rfl rfl rfl (by rfl))) ?_
  refine AO.op (O.pickOr rfl rfl rfl rfl (fun h => by exact congrArg (fun b => !b) h)) rfl rfl rfl ?_
  refine AO.nil ?_
  refine AQ.thenN ?_
  refine AW.split rfl (fun h => ?_) (fun h => ?_) <;> (try simp only [decide_eq_true_eq, decide_eq_false_iff_not, beq_iff_eq, beq_eq_false_iff_ne, bne_iff_ne, bne_eq_false_iff_eq, Bool.not_eq_true', Bool.not_eq_false', Bool.not_eq_true, Bool.not_eq_false, ne_eq, Int.not_lt, Int.not_le, Bool.and_eq_true, Bool.or_eq_true, Bool.or_eq_false_iff, Bool.and_eq_false_imp, strOf_toList, Decidable.not_not] at h)
  · skip
    have e : decide (ValC ⟨piv, hk, kid, hc, ctx, g⟩) = false := decide_eq_false fun hv => by
      obtain ⟨⟨a1, a2, a3, a4⟩, -⟩ := hv
      simp only at *
      omega
    refine AW.seq ?_
    refine AW.region ?_
    refine AO.op (O.assign rfl rfl) rfl rfl rfl ?_
    refine AO.nil ?_
    refine AQ.thenN ?_
    refine AW.ret ?_
    refine AQ.thenR ?_
    refine AQ.ret1 rfl rfl ⟨_, List.nil_sublist _, .nil⟩ (⟨congrArg (fun z => AV.val (.bool z)) e.symm, rfl⟩)
  · skip
    refine AW.skip ?_
    refine AQ.thenN ?_
    refine AW.seq ?_
    refine AW.region ?_
    refine AO.op (O.fieldAddr rfl rfl) rfl rfl rfl ?_
    refine AO.op (O.load rfl rfl (by repeat (exact List.Mem.head _)) (by rfl)) rfl rfl rfl ?_
    refine AO.op (O.move rfl rfl) rfl rfl rfl ?_
    refine AO.opG rfl rfl rfl (fun hp => O.fieldAddr rfl rfl) ?_
    refine AO.opG rfl rfl rfl (fun hp => OpW.force 26 rfl (by exact hp) (O.load rfl rfl (by repeat (exact List.Mem.head _)) (by rfl))) ?_
    refine AO.opG rfl rfl rfl (fun hp => OpW.force 27 rfl (by exact hp) (O.lenR rfl rfl)) ?_
    refine AO.opG rfl rfl rfl (fun hp => OpW.force 28 rfl (by exact hp) (O.eql rfl rfl rfl (by rfl))) ?_
    refine AO.op (O.pickOr rfl rfl rfl rfl (fun h => by exact congrArg (fun b => !b) h)) rfl rfl rfl ?_
    refine AO.op (O.move rfl rfl) rfl rfl rfl ?_
    refine AO.opG rfl rfl rfl (fun hp => O.fieldAddr rfl rfl) ?_
    refine AO.opG rfl rfl rfl (fun hp => OpW.force 32 rfl (by exact hp) (O.load rfl rfl (by repeat (exact List.Mem.head _)) (by rfl))) ?_
    refine AO.opG rfl rfl rfl (fun hp => OpW.force 33 rfl (by exact hp) (O.move rfl rfl)) ?_
    refine AO.opG rfl rfl rfl (fun hp => O.fieldAddr rfl rfl) ?_
    refine AO.opG rfl rfl rfl (fun hp => OpW.force 35 rfl (by exact hp) (O.load rfl rfl (by repeat (exact List.Mem.head _)) (by rfl))) ?_
    refine AO.opG rfl rfl rfl (fun hp => OpW.force 36 rfl (by exact hp) (O.lenR rfl rfl)) ?_
    refine AO.opG rfl rfl rfl (fun hp => OpW.force 37 rfl (by exact hp) (O.eql rfl rfl rfl (by rfl))) ?_
    refine AO.opG rfl rfl rfl (fun hp => OpW.force 34 rfl (by exact hp) (O.pickOr rfl rfl rfl rfl (fun h => by simp_all))) ?_
    refine AO.op (O.pickAnd rfl rfl rfl rfl (fun h => by exact h)) rfl rfl rfl ?_
    refine AO.op (O.assign rfl rfl) rfl rfl rfl ?_
    refine AO.nil ?_
    refine AQ.thenN ?_
    refine AW.ret ?_
    have e : decide (ValC ⟨piv, hk, kid, hc, ctx, g⟩) = ((hk || ((kid.length : Int) == 0)) && (hc || ((ctx.length : Int) == 0))) := by
      refine dec_eq ?_
      simp only [ValC, decide_eq_true_eq, Bool.and_eq_true, Bool.or_eq_true, beq_iff_eq]
      constructor
      · exact fun h => h.2
      · exact fun h2 => ⟨by omega, h2⟩
    refine AQ.ret1 rfl rfl ⟨_, List.nil_sublist _, .nil⟩ (⟨congrArg (fun z => AV.val (.bool z)) e.symm, rfl⟩)
set_option maxHeartbeats 2000000 in
theorem rcvalid_fn (c : Cmp) : Sp Try.prog 20 [aggC c] [] (Is (.val (.bool (decide (ValC c))))) := by
  obtain ⟨piv, hk, kid, hc, ctx, g⟩ := c
  refine Sp.enter Try.func20 rfl _ Try.ntmps20 rfl (fun w0 R0 => ?_)
  refine AW.seq ?_
  refine AW.region ?_
  refine AO.opB (O.box rfl rfl rfl rfl rfl) rfl rfl rfl ?_
  intro B
  refine AO.op (O.assign rfl rfl) rfl rfl rfl ?_
  refine AO.nil ?_
  refine AQ.thenN ?_
  refine AW.seq ?_
  refine AW.region ?_
  refine AO.op (O.fieldAddr rfl rfl) rfl rfl rfl ?_
  refine AO.op (O.load rfl rfl (by repeat (exact List.Mem.head _)) (by rfl)) rfl rfl rfl ?_
  refine AO.op (O.geq rfl rfl rfl (by rfl)) rfl rfl rfl ?_
  refine AO.op (O.move rfl rfl) rfl rfl rfl ?_
  refine AO.opG rfl rfl rfl (fun hp => O.fieldAddr rfl rfl) ?_
  refine AO.opG rfl rfl rfl (fun hp => OpW.force 7 rfl (by exact hp) (O.load rfl rfl (by repeat (exact List.Mem.head _)) (by rfl))) ?_
  refine AO.opG rfl rfl rfl (fun hp => OpW.force 8 rfl (by exact hp) (O.leq rfl rfl rfl (by rfl))) ?_
  refine AO.op (O.pickAnd rfl rfl rfl rfl (fun h => by exact h)) rfl rfl rfl ?_
  refine AO.op (O.move rfl rfl) rfl rfl rfl ?_
  refine AO.opG rfl rfl rfl (fun hp => O.fieldAddr rfl rfl) ?_
  refine AO.opG rfl rfl rfl (fun hp => OpW.force 12 rfl (by exact hp) (O.load rfl rfl (by repeat (exact List.Mem.head _)) (by rfl))) ?_
  refine AO.opG rfl rfl rfl (fun hp => OpW.force 13 rfl (by exact hp) (O.lenR rfl rfl)) ?_
  refine AO.opG rfl rfl rfl (fun hp => OpW.force 14 rfl (by exact hp) (O.leq rfl rfl rfl (by rfl))) ?_
  refine AO.op (O.pickAnd rfl rfl rfl rfl (fun h => by exact h)) rfl rfl rfl ?_
  refine AO.op (O.move rfl rfl) rfl rfl rfl ?_
  refine AO.opG rfl rfl rfl (fun hp => O.fieldAddr rfl rfl) ?_
  refine AO.opG rfl rfl rfl (fun hp => OpW.force 18 rfl (by exact hp) (O.load rfl rfl (by repeat (exact List.Mem.head _)) (by rfl))) ?_
  refine AO.opG rfl rfl rfl (fun hp => OpW.force 19 rfl (by exact hp) (O.move rfl rfl)) ?_
  refine AO.opG rfl rfl rfl (fun hp => O.fieldAddr rfl rfl) ?_
  refine AO.opG rfl rfl rfl (fun hp => OpW.force 21 rfl (by exact hp) (O.load rfl rfl (by repeat (exact List.Mem.head _)) (by rfl))) ?_
  refine AO.opG rfl rfl rfl (fun hp => OpW.force 22 rfl (by exact hp) (O.lenR rfl rfl)) ?_
  refine AO.opG rfl rfl rfl (fun hp => OpW.force 23 rfl (by exact hp) (O.eql rfl rfl rfl (by rfl))) ?_
  refine AO.opG rfl rfl rfl (fun hp => OpW.force 20 rfl (by exact hp) (O.pickOr rfl rfl rfl rfl (fun h => by simp_all))) ?_
  refine AO.op (O.pickAnd rfl rfl rfl rfl (fun h => by exact h)) rfl rfl rfl ?_
  refine AO.op (O.move rfl rfl) rfl rfl rfl ?_
  refine AO.opG rfl rfl rfl (fun hp => O.fieldAddr rfl rfl) ?_
  refine AO.opG rfl rfl rfl (fun hp => OpW.force 28 rfl (by exact hp) (O.load rfl rfl (by repeat (exact List.Mem.head _)) (by rfl))) ?_
  refine AO.opG rfl rfl rfl (fun hp => OpW.force 29 rfl (by exact hp) (O.lenR rfl rfl)) ?_
  refine AO.opG rfl rfl rfl (fun hp => OpW.force 30 rfl (by exact hp) (O.leq rfl rfl rfl (by rfl))) ?_
  refine AO.op (O.pickAnd rfl rfl rfl rfl (fun h => by exact h)) rfl rfl rfl ?_
  refine AO.op (O.move rfl rfl) rfl rfl rfl ?_
  refine AO.opG rfl rfl rfl (fun hp => O.fieldAddr rfl rfl) ?_
  refine AO.opG rfl rfl rfl (fun hp => OpW.force 34 rfl (by exact hp) (O.load rfl rfl (by repeat (exact List.Mem.head _)) (by rfl))) ?_
  refine AO.opG rfl rfl rfl (fun hp => OpW.force 35 rfl (by exact hp) (O.move rfl rfl)) ?_
  refine AO.opG rfl rfl rfl (fun hp => O.fieldAddr rfl rfl) ?_
  refine AO.opG rfl rfl rfl (fun hp => OpW.force 37 rfl (by exact hp) (O.load rfl rfl (by repeat (exact List.Mem.head _)) (by rfl))) ?_
  refine AO.opG rfl rfl rfl (fun hp => OpW.force 38 rfl (by exact hp) (O.lenR rfl rfl)) ?_
  refine AO.opG rfl rfl rfl (fun hp => OpW.force 39 rfl (by exact hp) (O.eql rfl rfl rfl (by rfl))) ?_
  refine AO.opG rfl rfl rfl (fun hp => OpW.force 36 rfl (by exact hp) (O.pickOr rfl rfl rfl rfl (fun h => by simp_all))) ?_
  refine AO.op (O.pickAnd rfl rfl rfl rfl (fun h => by exact h)) rfl rfl rfl ?_
  refine AO.op (O.assign rfl rfl) rfl rfl rfl ?_
  refine AO.nil ?_
  refine AQ.thenN ?_
  refine AW.ret ?_
  have e : decide (ValC ⟨piv, hk, kid, hc, ctx, g⟩) = (decide (-1 ≤ piv) && decide (piv ≤ 1099511627775) && decide ((kid.length : Int) ≤ 7) && (hk || ((kid.length : Int) == 0)) && decide ((ctx.length : Int) ≤ 16) && (hc || ((ctx.length : Int) == 0))) := by
    refine dec_eq ?_
    simp only [ValC, decide_eq_true_eq, Bool.and_eq_true, Bool.or_eq_true, beq_iff_eq]
    constructor
    · exact fun h => ⟨⟨⟨⟨⟨h.1.1, h.1.2.1⟩, h.1.2.2.1⟩, h.2.1⟩, h.1.2.2.2⟩, h.2.2⟩
    · exact fun h => ⟨⟨h.1.1.1.1.1, h.1.1.1.1.2, h.1.1.1.2, h.1.2⟩, h.1.1.2, h.2⟩
  refine AQ.ret1 rfl rfl ⟨_, List.nil_sublist _, .nil⟩ (⟨congrArg (fun z => AV.val (.bool z)) e.symm, rfl⟩)

def flg (c : Cmp) : Int := (pivB c.piv).length + (if c.hasKid then 8 else 0) + (if c.hasCtx then 16 else 0) + (if c.group then 32 else 0)
def encB (c : Cmp) : List UInt8 := u8 (flg c) :: pivB c.piv ++ (if c.hasCtx then u8 c.ctx.length :: c.ctx else []) ++ c.kid
def encC (c : Cmp) : List UInt8 × Int := if ¬ ValC c then ([], 1) else if flg c = 0 then ([], 0) else (encB c, 0)
theorem flg_le {c : Cmp} (h : ValC c) : 0 ≤ flg c ∧ flg c ≤ 61 := by
  have := pivB_len c.piv
  unfold flg
  (repeat' split) <;> omega

set_option maxHeartbeats 4000000 in
theorem cencode_fn (c : Cmp) : Sp Try.prog 17 [aggC c] [] (Is (.tup [roB (encC c).1, .val (.int .i64 (encC c).2)])) := by
  have hfl := flg_le (c := c)
  have hpl := pivB_len c.piv
  obtain ⟨piv, hk, kid, hc, ctx, g⟩ := c
  refine Sp.enter Try.func17 rfl _ Try.ntmps17 rfl (fun w0 R0 => ?_)
  refine AW.seq ?_
  refine AW.region ?_
  refine AO.opB (O.box rfl rfl rfl rfl rfl) rfl rfl rfl ?_
  intro B
  refine AO.op (O.assign rfl rfl) rfl rfl rfl ?_
  refine AO.op (O.assign rfl rfl) rfl rfl rfl ?_
  refine AO.nil ?_
  refine AQ.thenN ?_
  refine AW.seq ?_
  refine AW.seq ?_
  refine AW.region ?_
  (refine AO.op (O.loadK rfl rfl (by repeat (exact List.Mem.head _)) (by (dsimp only [List.set, List.append, List.cons_append, List.nil_append, splice, ofConst, AV.cells, List.map, List.map_cons, List.map_nil, List.take, List.drop, Nat.zero_add, Nat.add_zero, Nat.reduceAdd, Nat.reduceMul, Nat.zero_mul, Value.cells, List.toList_toArray, zerosA, List.replicate, List.flatten, List.append_nil]; done)) (by rfl)) rfl rfl rfl ?_)
  refine AO.op (O.call rfl Try.func19 rfl rfl rfl (cvalid_fn ⟨_, _, _, _, _, _⟩)) rfl rfl rfl ?_
  refine AO.op (O.not rfl rfl (by rfl)) rfl rfl rfl ?_
  refine AO.nil ?_
  refine AQ.thenN ?_
  refine AW.split rfl (fun h => ?_) (fun h => ?_) <;> (try simp only [decide_eq_true_eq, decide_eq_false_iff_not, beq_iff_eq, beq_eq_false_iff_ne, bne_iff_ne, bne_eq_false_iff_eq, Bool.not_eq_true', Bool.not_eq_false', Bool.not_eq_true, Bool.not_eq_false, ne_eq, Int.not_lt, Int.not_le, Bool.and_eq_true, Bool.or_eq_true, Bool.or_eq_false_iff, Bool.and_eq_false_imp, strOf_toList, Decidable.not_not] at h)
  · skip
    have e : encC ⟨piv, hk, kid, hc, ctx, g⟩ = ([], 1) := by unfold encC; rw [if_pos h]
    rw [e]
    refine AW.seq ?_
    refine AW.region ?_
    refine AO.op (O.assign rfl rfl) rfl rfl rfl ?_
    refine AO.op (O.assign rfl rfl) rfl rfl rfl ?_
    refine AO.nil ?_
    refine AQ.thenN ?_
    refine AW.ret ?_
    refine AQ.thenR ?_
    refine AQ.g ?_
    refine G.nilRo 2 rfl ?_
    refine AQ.u ?_
    try dsimp only [List.map, List.eraseIdx, List.cons_append, List.nil_append]
    refine AQ.ret2 rfl rfl rfl ⟨_, List.nil_sublist _, .nil⟩ (⟨rfl, rfl⟩)
  · skip
    have hfl := hfl h
    have e : encC ⟨piv, hk, kid, hc, ctx, g⟩ = if flg ⟨piv, hk, kid, hc, ctx, g⟩ = 0 then ([], 0) else (encB ⟨piv, hk, kid, hc, ctx, g⟩, 0) := by unfold encC; rw [if_neg (by simpa using h)]
    rw [e]
    obtain ⟨⟨a1, a2, a3, a4⟩, -⟩ := h
    simp only at *
    obtain ⟨n, hn⟩ : ∃ n : Int, n = (pivB piv).length := ⟨_, rfl⟩
    have hu := u8_small (x := ((pivB piv).length : Int)) (by omega)
    rw [← hn] at hu
    refine AW.skip ?_
    refine AQ.thenN ?_
    refine AW.seq ?_
    refine AW.region ?_
    refine AO.op (O.fieldAddr rfl rfl) rfl rfl rfl ?_
    refine AO.op (O.load rfl rfl (by repeat (exact List.Mem.head _)) (by rfl)) rfl rfl rfl ?_
    refine AO.op (O.call rfl Try.func30 rfl rfl rfl (bytes_fn _)) rfl rfl rfl ?_
    refine AO.op (O.assign rfl rfl) rfl rfl rfl ?_
    refine AO.nil ?_
    refine AQ.thenN ?_
    refine AW.seq ?_
    refine AW.region ?_
    refine AO.op (O.move rfl rfl) rfl rfl rfl ?_
    refine AO.op (O.lenR rfl rfl) rfl rfl rfl ?_
    refine AO.op (O.conv rfl rfl wU8any) rfl rfl rfl ?_
    refine AO.op (O.assign rfl rfl) rfl rfl rfl ?_
    refine AO.nil ?_
    refine AQ.thenN ?_
    refine AW.seq ?_
    refine AW.seq ?_
    refine AW.region ?_
    refine AO.op (O.fieldAddr rfl rfl) rfl rfl rfl ?_
    refine AO.op (O.load rfl rfl (by repeat (exact List.Mem.head _)) (by rfl)) rfl rfl rfl ?_
    refine AO.nil ?_
    refine AQ.thenN ?_
    simp only [hu, ← hn]
    refine AW.joinK (True) [(1, _), (4, _)] [(5, .val (.int .u8 (bif hk then n + 8 else n)))] [.blk B 30 6 [.val (.int .i64 piv), .val (.bool hk), roB kid, .val (.bool hc), roB ctx, .val (.bool g)]] rfl (by repeat (first | exact envNil | refine envCons rfl ?_)) (fun hb => ?_) (fun hb => ?_) (fun hj => ?_) <;> try (try simp only [decide_eq_true_eq, decide_eq_false_iff_not, beq_iff_eq, beq_eq_false_iff_ne, bne_iff_ne, bne_eq_false_iff_eq, Bool.not_eq_true', Bool.not_eq_false', Bool.not_eq_true, Bool.not_eq_false, ne_eq, Int.not_lt, Int.not_le, Bool.and_eq_true, Bool.or_eq_true, Bool.or_eq_false_iff, Bool.and_eq_false_imp, strOf_toList, Decidable.not_not] at hb)
    · skip
      subst hb
      refine AW.region ?_
      refine AO.op (O.move rfl rfl) rfl rfl rfl ?_
      refine AO.op (O.or_ rfl rfl rfl (orLU8 3 (m := 8) (by decide) (by omega) (by omega))) rfl rfl rfl ?_
      refine AO.op (O.assign rfl rfl) rfl rfl rfl ?_
      refine AO.nil ?_
      refine AQ.midK (trivial) (by repeat (first | exact envNil | refine envCons rfl ?_)) (by repeat (first | exact envNil | refine envCons rfl ?_)) (by repeat (first | exact subPnil | refine subPcons 0 rfl ?_))
    · skip
      subst hb
      refine AW.skip ?_
      refine AQ.midK (trivial) (by repeat (first | exact envNil | refine envCons rfl ?_)) (by repeat (first | exact envNil | refine envCons rfl ?_)) (by repeat (first | exact subPnil | refine subPcons 0 rfl ?_))
    · dsimp only [List.cons_append, List.nil_append]
      refine AQ.thenN ?_
      obtain ⟨n1, hn1⟩ : ∃ n1 : Int, n1 = bif hk then n + 8 else n := ⟨_, rfl⟩
      have b1 : 0 ≤ n1 ∧ n1 ≤ 13 := by rw [hn1]; cases hk <;> simp <;> omega
      rw [← hn1]
      refine AW.seq ?_
      refine AW.seq ?_
      refine AW.region ?_
      refine AO.op (O.fieldAddr rfl rfl) rfl rfl rfl ?_
      refine AO.op (O.load rfl rfl (by repeat (exact List.Mem.head _)) (by rfl)) rfl rfl rfl ?_
      refine AO.nil ?_
      refine AQ.thenN ?_
      refine AW.joinK (True) [(1, _), (4, _)] [(5, .val (.int .u8 (bif hc then n1 + 16 else n1)))] [.blk B 30 6 [.val (.int .i64 piv), .val (.bool hk), roB kid, .val (.bool hc), roB ctx, .val (.bool g)]] rfl (by repeat (first | exact envNil | refine envCons rfl ?_)) (fun hb => ?_) (fun hb => ?_) (fun hj => ?_) <;> try (try simp only [decide_eq_true_eq, decide_eq_false_iff_not, beq_iff_eq, beq_eq_false_iff_ne, bne_iff_ne, bne_eq_false_iff_eq, Bool.not_eq_true', Bool.not_eq_false', Bool.not_eq_true, Bool.not_eq_false, ne_eq, Int.not_lt, Int.not_le, Bool.and_eq_true, Bool.or_eq_true, Bool.or_eq_false_iff, Bool.and_eq_false_imp, strOf_toList, Decidable.not_not] at hb)
      · skip
        subst hb
        refine AW.region ?_
        refine AO.op (O.move rfl rfl) rfl rfl rfl ?_
        refine AO.op (O.or_ rfl rfl rfl (orLU8 4 (m := 16) (by decide) (by omega) (by omega))) rfl rfl rfl ?_
        refine AO.op (O.assign rfl rfl) rfl rfl rfl ?_
        refine AO.nil ?_
        refine AQ.midK (trivial) (by repeat (first | exact envNil | refine envCons rfl ?_)) (by repeat (first | exact envNil | refine envCons rfl ?_)) (by repeat (first | exact subPnil | refine subPcons 0 rfl ?_))
      · skip
        subst hb
        refine AW.skip ?_
        refine AQ.midK (trivial) (by repeat (first | exact envNil | refine envCons rfl ?_)) (by repeat (first | exact envNil | refine envCons rfl ?_)) (by repeat (first | exact subPnil | refine subPcons 0 rfl ?_))
      · dsimp only [List.cons_append, List.nil_append]
        refine AQ.thenN ?_
        obtain ⟨n2, hn2⟩ : ∃ n2 : Int, n2 = bif hc then n1 + 16 else n1 := ⟨_, rfl⟩
        have b2 : 0 ≤ n2 ∧ n2 ≤ 29 := by rw [hn2]; cases hc <;> simp <;> omega
        rw [← hn2]
        refine AW.seq ?_
        refine AW.seq ?_
        refine AW.region ?_
        refine AO.op (O.fieldAddr rfl rfl) rfl rfl rfl ?_
        refine AO.op (O.load rfl rfl (by repeat (exact List.Mem.head _)) (by rfl)) rfl rfl rfl ?_
        refine AO.nil ?_
        refine AQ.thenN ?_
        refine AW.joinK (True) [(1, _), (4, _)] [(5, .val (.int .u8 (bif g then n2 + 32 else n2)))] [.blk B 30 6 [.val (.int .i64 piv), .val (.bool hk), roB kid, .val (.bool hc), roB ctx, .val (.bool g)]] rfl (by repeat (first | exact envNil | refine envCons rfl ?_)) (fun hb => ?_) (fun hb => ?_) (fun hj => ?_) <;> try (try simp only [decide_eq_true_eq, decide_eq_false_iff_not, beq_iff_eq, beq_eq_false_iff_ne, bne_iff_ne, bne_eq_false_iff_eq, Bool.not_eq_true', Bool.not_eq_false', Bool.not_eq_true, Bool.not_eq_false, ne_eq, Int.not_lt, Int.not_le, Bool.and_eq_true, Bool.or_eq_true, Bool.or_eq_false_iff, Bool.and_eq_false_imp, strOf_toList, Decidable.not_not] at hb)
        · skip
          subst hb
          refine AW.region ?_
          refine AO.op (O.move rfl rfl) rfl rfl rfl ?_
          refine AO.op (O.or_ rfl rfl rfl (orLU8 5 (m := 32) (by decide) (by omega) (by omega))) rfl rfl rfl ?_
          refine AO.op (O.assign rfl rfl) rfl rfl rfl ?_
          refine AO.nil ?_
          refine AQ.midK (trivial) (by repeat (first | exact envNil | refine envCons rfl ?_)) (by repeat (first | exact envNil | refine envCons rfl ?_)) (by repeat (first | exact subPnil | refine subPcons 0 rfl ?_))
        · skip
          subst hb
          refine AW.skip ?_
          refine AQ.midK (trivial) (by repeat (first | exact envNil | refine envCons rfl ?_)) (by repeat (first | exact envNil | refine envCons rfl ?_)) (by repeat (first | exact subPnil | refine subPcons 0 rfl ?_))
        · dsimp only [List.cons_append, List.nil_append]
          refine AQ.thenN ?_
          have hf : (bif g then n2 + 32 else n2) = flg ⟨piv, hk, kid, hc, ctx, g⟩ := by
            rw [hn2, hn1, hn]; unfold flg; cases hk <;> cases hc <;> cases g <;> simp
          rw [hf]
          obtain ⟨f, hfd⟩ : ∃ f, f = flg ⟨piv, hk, kid, hc, ctx, g⟩ := ⟨_, rfl⟩
          rw [← hfd] at hfl ⊢
          refine AW.seq ?_
          refine AW.seq ?_
          refine AW.region ?_
          refine AO.op (O.move rfl rfl) rfl rfl rfl ?_
          refine AO.op (O.eql rfl rfl rfl (by rfl)) rfl rfl rfl ?_
          refine AO.nil ?_
          refine AQ.thenN ?_
          refine AW.split rfl (fun hz => ?_) (fun hz => ?_) <;> (try simp only [decide_eq_true_eq, decide_eq_false_iff_not, beq_iff_eq, beq_eq_false_iff_ne, bne_iff_ne, bne_eq_false_iff_eq, Bool.not_eq_true', Bool.not_eq_false', Bool.not_eq_true, Bool.not_eq_false, ne_eq, Int.not_lt, Int.not_le, Bool.and_eq_true, Bool.or_eq_true, Bool.or_eq_false_iff, Bool.and_eq_false_imp, strOf_toList, Decidable.not_not] at hz)
          · skip
            rw [if_pos hz]
            refine AW.seq ?_
            refine AW.region ?_
            refine AO.op (O.assign rfl rfl) rfl rfl rfl ?_
            refine AO.op (O.assign rfl rfl) rfl rfl rfl ?_
            refine AO.nil ?_
            refine AQ.thenN ?_
            refine AW.ret ?_
            refine AQ.thenR ?_
            refine AQ.g ?_
            refine G.nilRo 2 rfl ?_
            refine AQ.u ?_
            try dsimp only [List.map, List.eraseIdx, List.cons_append, List.nil_append]
            refine AQ.ret2 rfl rfl rfl ⟨_, List.nil_sublist _, .nil⟩ (⟨rfl, rfl⟩)
          · skip
            have hfu := u8_small (x := f) (by omega)
            rw [if_neg hz]
            refine AW.skip ?_
            refine AQ.thenN ?_
            refine AW.seq ?_
            refine AW.region ?_
            refine AO.op (O.move rfl rfl) rfl rfl rfl ?_
            refine AO.opB (O.buildSlice rfl rfl rfl (by rfl) (by rfl) (by rfl) (by rfl)) rfl rfl rfl ?_
            intro B
            refine AO.g ?_
            refine G.closeRow (b := B) (n := 1) (cap := 1) 0 rfl rfl rfl (Nat.le_refl _) (by (unfold maxLen; omega)) ?_
            refine AO.u ?_
            dsimp only [List.set]
            refine AO.op (O.move rfl rfl) rfl rfl rfl ?_
            (refine AO.append' (i := 0) rfl rfl rfl rfl (by rfl) (by rfl) rfl rfl rfl (by exact SrcA.ro TyD.ax (by (simp; done)) (Nat.le_of_ble_eq_true rfl)) (by (simp [AV.cells, AV.one, *]; done)) (by (unfold maxLen; omega)) (by omega) (by (dsimp only [List.set, List.append, List.cons_append, List.nil_append, splice, ofConst, AV.cells, List.map, List.map_cons, List.map_nil, List.take, List.drop, Nat.zero_add, Nat.add_zero, Nat.reduceAdd, Nat.reduceMul, Nat.zero_mul, Value.cells, List.toList_toArray, zerosA, List.replicate, List.flatten, List.append_nil]; done)) (fun _ => by (dsimp only [List.set]; done)) ?_)
            intro V hV
            refine AO.op (O.assign rfl rfl) rfl rfl rfl ?_
            refine AO.nil ?_
            refine AQ.thenN ?_
            refine AW.seq ?_
            refine AW.seq ?_
            refine AW.region ?_
            refine AO.op (O.fieldAddr rfl rfl) rfl rfl rfl ?_
            refine AO.op (O.load rfl rfl (by repeat (first | exact List.Mem.head _ | refine List.Mem.tail _ ?_)) (by rfl)) rfl rfl rfl ?_
            refine AO.nil ?_
            refine AQ.thenN ?_
            have hfu2 : (f : Int) = ((u8 f).toNat : Int) := hfu.symm
            have e2 : encB ⟨piv, hk, kid, hc, ctx, g⟩ = u8 f :: pivB piv ++ (if hc then u8 ctx.length :: ctx else []) ++ kid := by unfold encB; rw [← hfd]
            rw [e2]
            refine AW.split rfl (fun hb => ?_) (fun hb => ?_)
            · skip
              subst hb
              have hu2 := u8_small (x := (ctx.length : Int)) (by omega)
              refine AW.regionM [(0, false), (1, false), (2, false), (3, false), (4, false), (5, false), (7, false), (8, false), (6, true), (9, true), (10, true)] (by kernel_rfl) (by kernel_rfl) (by exact (by exact splitRow 6 0 rfl rfl splitNil)) ?_
              dsimp only [List.eraseIdx]
              refine AM.op rfl (O.move rfl rfl) rfl rfl rfl ?_
              refine AM.op rfl (O.fieldAddr rfl rfl) rfl rfl rfl ?_
              refine AM.op rfl (O.load rfl rfl (by repeat (exact List.Mem.head _)) (by rfl)) rfl rfl rfl ?_
              refine AM.op rfl (O.lenR rfl rfl) rfl rfl rfl ?_
              refine AM.op rfl (O.conv rfl rfl wU8any) rfl rfl rfl ?_
              refine AM.op rfl (OpW.frz (O.buildSlice rfl rfl rfl (by rfl) (by rfl) (by rfl) (by rfl)) (by (unfold maxLen; omega))) rfl rfl rfl ?_
              refine AM.op rfl (O.fieldAddr rfl rfl) rfl rfl rfl ?_
              refine AM.op rfl (O.load rfl rfl (by repeat (exact List.Mem.head _)) (by rfl)) rfl rfl rfl ?_
              refine AM.main _ rfl (fun w0 R0 => ?_)
              (refine AO.append' (i := 0) rfl rfl rfl rfl (by rfl) (by rfl) rfl rfl rfl (by exact SrcA.ro TyD.ax (by rfl) (Nat.le_of_ble_eq_true rfl)) (by rfl) (by (unfold maxLen; omega)) (by omega) (by (dsimp only [List.set, List.append, List.cons_append, List.nil_append, splice, ofConst, AV.cells, List.map, List.map_cons, List.map_nil, List.take, List.drop, Nat.zero_add, Nat.add_zero, Nat.reduceAdd, Nat.reduceMul, Nat.zero_mul, Value.cells, List.toList_toArray, zerosA, List.replicate, List.flatten, List.append_nil]; done)) (fun _ => by (dsimp only [List.set]; done)) ?_)
              intro V hV
              refine AM.ok ?_
              dsimp only [putE]
              refine AM.main _ rfl (fun w0 R0 => ?_)
              (refine AO.append' (i := 0) rfl rfl rfl rfl (by rfl) (by rfl) rfl rfl rfl (by exact SrcA.ro TyD.ax (by (simp; done)) (Nat.le_of_ble_eq_true rfl)) (by (simp [AV.cells, AV.one, *]; done)) (by (unfold maxLen; omega)) (by omega) (by (dsimp only [List.set, List.append, List.cons_append, List.nil_append, splice, ofConst, AV.cells, List.map, List.map_cons, List.map_nil, List.take, List.drop, Nat.zero_add, Nat.add_zero, Nat.reduceAdd, Nat.reduceMul, Nat.zero_mul, Value.cells, List.toList_toArray, zerosA, List.replicate, List.flatten, List.append_nil]; done)) (fun _ => by (dsimp only [List.set]; done)) ?_)
              intro V hV
              refine AM.ok ?_
              dsimp only [putE]
              refine AM.main _ rfl (fun w0 R0 => ?_)
              refine AO.op (O.assign rfl rfl) rfl rfl rfl ?_
              refine AM.ok ?_
              dsimp only [putE]
              refine AM.nil ?_
              dsimp only [List.cons_append, List.nil_append]
              refine AQ.thenN ?_
              refine AW.seq ?_
              refine AW.region ?_
              refine AO.op (O.move rfl rfl) rfl rfl rfl ?_
              refine AO.op (O.fieldAddr rfl rfl) rfl rfl rfl ?_
              refine AO.op (O.load rfl rfl (by repeat (first | exact List.Mem.head _ | refine List.Mem.tail _ ?_)) (by rfl)) rfl rfl rfl ?_
              (refine AO.append' (i := 0) rfl rfl rfl rfl (by rfl) (by rfl) rfl rfl rfl (by exact SrcA.ro TyD.ax (by (simp; done)) (Nat.le_of_ble_eq_true rfl)) (by (simp [AV.cells, AV.one, *]; done)) (by (unfold maxLen; omega)) (by omega) (by (dsimp only [List.set, List.append, List.cons_append, List.nil_append, splice, ofConst, AV.cells, List.map, List.map_cons, List.map_nil, List.take, List.drop, Nat.zero_add, Nat.add_zero, Nat.reduceAdd, Nat.reduceMul, Nat.zero_mul, Value.cells, List.toList_toArray, zerosA, List.replicate, List.flatten, List.append_nil]; done)) (fun _ => by (dsimp only [List.set]; done)) ?_)
              intro V hV
              refine AO.op (O.assign rfl rfl) rfl rfl rfl ?_
              refine AO.op (O.assign rfl rfl) rfl rfl rfl ?_
              refine AO.nil ?_
              refine AQ.thenN ?_
              refine AW.ret ?_
              refine AQ.g ?_
              refine G.freezeRow 0 rfl [2] (by repeat (first | exact frNil | refine frCons rfl ?_)) ?_
              refine AQ.u ?_
              try dsimp only [List.map, List.eraseIdx, List.cons_append, List.nil_append]
              refine AQ.ret2 rfl rfl rfl ⟨_, List.nil_sublist _, .nil⟩ (⟨congrArg (fun z => AV.tup [z, .val (.int .i64 0)]) (roB_of (by simp; omega) (by simp [bytesA, hfu, hu2])), rfl⟩)
            · skip
              subst hb
              refine AW.skip ?_
              refine AQ.thenN ?_
              refine AW.seq ?_
              refine AW.region ?_
              refine AO.op (O.move rfl rfl) rfl rfl rfl ?_
              refine AO.op (O.fieldAddr rfl rfl) rfl rfl rfl ?_
              refine AO.op (O.load rfl rfl (by repeat (first | exact List.Mem.head _ | refine List.Mem.tail _ ?_)) (by rfl)) rfl rfl rfl ?_
              (refine AO.append' (i := 0) rfl rfl rfl rfl (by rfl) (by rfl) rfl rfl rfl (by exact SrcA.ro TyD.ax (by (simp; done)) (Nat.le_of_ble_eq_true rfl)) (by (simp [AV.cells, AV.one, *]; done)) (by (unfold maxLen; omega)) (by omega) (by (dsimp only [List.set, List.append, List.cons_append, List.nil_append, splice, ofConst, AV.cells, List.map, List.map_cons, List.map_nil, List.take, List.drop, Nat.zero_add, Nat.add_zero, Nat.reduceAdd, Nat.reduceMul, Nat.zero_mul, Value.cells, List.toList_toArray, zerosA, List.replicate, List.flatten, List.append_nil]; done)) (fun _ => by (dsimp only [List.set]; done)) ?_)
              intro V hV
              refine AO.op (O.assign rfl rfl) rfl rfl rfl ?_
              refine AO.op (O.assign rfl rfl) rfl rfl rfl ?_
              refine AO.nil ?_
              refine AQ.thenN ?_
              refine AW.ret ?_
              refine AQ.g ?_
              refine G.freezeRow 0 rfl [2] (by repeat (first | exact frNil | refine frCons rfl ?_)) ?_
              refine AQ.u ?_
              try dsimp only [List.map, List.eraseIdx, List.cons_append, List.nil_append]
              refine AQ.ret2 rfl rfl rfl ⟨_, List.nil_sublist _, .nil⟩ (⟨congrArg (fun z => AV.tup [z, .val (.int .i64 0)]) (roB_of (by simp; omega) (by simp [bytesA, hfu])), rfl⟩)
end Go.Proofs.Ytbkclbbhdeohfaa.By
