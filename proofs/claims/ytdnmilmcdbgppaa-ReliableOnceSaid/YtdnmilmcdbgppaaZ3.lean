/-
  Texts laid together (part 3): what the statement's walk and plain law need. No condition.
-/
import Derived.ChangeSame
import Derived.JoinedOf
import Derived.JoinedAt
import Derived.RowKit3
import Derived.ReadAgain
import Derived.Deep.Slices
import Derived.ChangeSlices
import Derived.Test.YtdnmilmcdbgppaaZ2
namespace Go.Proofs.Ytdnmilmcdbgppaa.By
open Go.RowKit L A
set_option linter.unusedVariables false
set_option maxRecDepth 20000
set_option linter.unusedSimpArgs false
attribute [local irreducible] AW AQ AO
def BdE (e : Ep) : Prop := e.out.length ≤ 140737488355328 ∧ e.used.length ≤ 140737488355328 ∧ e.inn.length ≤ 140737488355328 ∧ ∀ h ∈ e.inn, BdM h.m
abbrev UOkTo (l : List Us) (k : Nat) : Prop := ∀ u ∈ l.take k, OkU u
theorem UOkTo.succ {l : List Us} {k : Nat} (h : k < l.length) : UOkTo l (k + 1) ↔ UOkTo l k ∧ OkU (us l k) := mem_take_snoc Us.none h OkU
theorem UOkTo.mono {l : List Us} {k : Nat} (hh : UOkTo l l.length) : UOkTo l k := fun w hw => hh w (by rw [List.take_length]; exact List.mem_of_mem_take hw)
abbrev chU (u : Us) : Bool := !decide (PeerOk u.peer) || !decide (IdOk u.id) || decide (u.till < 0)
theorem chU_eq (u : Us) : chU u = !decide (OkU u) := chH_eq ⟨u.peer, u.id, u.till, false, Msg.none⟩
theorem valE_iff (e : Ep) : ValE e ↔ (IdOk e.next ∧ e.used.length ≤ 32) ∧ UOkTo e.used e.used.length ∧ (e.out.length ≤ 16 ∧ WOkTo e.out e.out.length) ∧ (e.inn.length ≤ 16 ∧ HOkTo e.inn e.inn.length) := by
  unfold ValE UOkTo WOkTo HOkTo
  rw [List.take_length, List.take_length, List.take_length]
  constructor
  · rintro ⟨h1, h2, h3, h4, h5, h6, h7, h8, h9⟩; exact ⟨⟨h1, h3⟩, h7, ⟨h2, h5, h6⟩, h4, h8, h9⟩
  · rintro ⟨⟨h1, h3⟩, h7, ⟨h2, h5, h6⟩, h4, h8, h9⟩; exact ⟨h1, h2, h3, h4, h5, h6, h7, h8, h9⟩
theorem evalid_fn (e : Ep) (hb : BdE e) : Sp Try.prog 15 [aggE e] [] (Is (.val (.bool (decide (ValE e))))) := by
  have hb2 := hb.2.1
  refine Sp.enter Try.func15 rfl _ Try.ntmps15 rfl (fun w0 R0 => ?_)
  refine AW.seq ?_
  refine AW.region ?_
  refine AO.opB (O.box rfl rfl rfl rfl rfl) rfl rfl rfl ?_
  intro B1
  refine AO.op (O.assign rfl rfl) rfl rfl rfl ?_
  refine AO.nil ?_
  refine AQ.thenN ?_
  refine AW.seq ?_
  refine AW.seq ?_
  refine AW.region ?_
  refine AO.op (O.fieldAddr rfl rfl) rfl rfl rfl ?_
  refine AO.op (O.load rfl rfl (by repeat (exact List.Mem.head _)) (by rfl)) rfl rfl rfl ?_
  refine AO.op (O.call rfl Try.func36 rfl rfl rfl (idOK_fn _)) rfl rfl rfl ?_
  refine AO.op (O.not rfl rfl (by rfl)) rfl rfl rfl ?_
  refine AO.op (O.move rfl rfl) rfl rfl rfl ?_
  refine AO.opG rfl rfl rfl (fun hp => O.fieldAddr rfl rfl) ?_
  refine AO.opG rfl rfl rfl (fun hp => OpW.force 10 rfl (by exact hp) (O.load rfl rfl (by repeat (exact List.Mem.head _)) (by rfl))) ?_
  refine AO.opG rfl rfl rfl (fun hp => OpW.force 11 rfl (by exact hp) (O.lenR rfl rfl)) ?_
  refine AO.opG rfl rfl rfl (fun hp => OpW.force 12 rfl (by exact hp) (O.gtr rfl rfl rfl (by rfl))) ?_
  refine AO.op (O.pickOr rfl rfl rfl rfl (fun h => by exact congrArg (fun b => !b) h)) rfl rfl rfl ?_
  refine AO.nil ?_
  refine AQ.thenN ?_
  refine AW.split rfl (fun h => ?_) (fun h => ?_) <;> (try simp only [decide_eq_true_eq, decide_eq_false_iff_not, beq_iff_eq, beq_eq_false_iff_ne, bne_iff_ne, bne_eq_false_iff_eq, Bool.not_eq_true', Bool.not_eq_false', Bool.not_eq_true, Bool.not_eq_false, ne_eq, Int.not_lt, Int.not_le, Bool.and_eq_true, Bool.or_eq_true, Bool.or_eq_false_iff, Bool.and_eq_false_imp, strOf_toList, Decidable.not_not] at h)
  · skip
    refine AW.seq ?_
    refine AW.region ?_
    refine AO.op (O.assign rfl rfl) rfl rfl rfl ?_
    refine AO.nil ?_
    refine AQ.thenN ?_
    refine AW.ret ?_
    refine AQ.thenR ?_
    refine AQ.ret1 rfl rfl ⟨_, List.nil_sublist _, .nil⟩ (retD (decide_eq_false fun hk => by obtain ⟨⟨h1, h2⟩, -⟩ := (valE_iff e).1 hk; rcases h with h | h <;> omega).symm)
  · skip
    refine AW.skip ?_
    refine AQ.thenN ?_
    refine AW.seq ?_
    refine AW.seq ?_
    refine AW.region ?_
    refine AO.op (O.fieldAddr rfl rfl) rfl rfl rfl ?_
    refine AO.op (O.load rfl rfl (by repeat (exact List.Mem.head _)) (by rfl)) rfl rfl rfl ?_
    refine AO.op (O.lenR rfl rfl) rfl rfl rfl ?_
    refine AO.op (O.move rfl rfl) rfl rfl rfl ?_
    refine AO.nil ?_
    refine AQ.thenN ?_
    refine AW.block ?_
    refine AW.loopK [(1, _), (16, _), (17, _)] (fun nn E H => ∃ (k : Nat), (k ≤ e.used.length) ∧ (UOkTo e.used k) ∧ nn = e.used.length - k ∧ E = [(18, .val (.int .i64 (k : Int)))] ∧ H = [.blk B1 26 4 [.val (.int .i64 e.next), roW e.out, roU e.used, roH e.inn]]) _ (⟨0, by omega, fun _ hu => by simp at hu, rfl, rfl, rfl⟩) (by repeat (first | exact envNil | refine envCons rfl ?_)) (by repeat (first | exact envNil | refine envCons rfl ?_)) (by repeat (first | exact subPnil | refine subPcons 0 rfl ?_)) ?_
    rintro nn E H ⟨k, h1, ha, rfl, rfl, rfl⟩
    dsimp only [List.cons_append, List.nil_append]
    refine AW.seq ?_
    refine AW.region ?_
    refine AO.op (O.lss rfl rfl rfl (by rfl)) rfl rfl rfl ?_
    refine AO.nil ?_
    refine AQ.thenN ?_
    refine AW.seq ?_
    refine AW.split rfl (fun hlt => ?_) (fun hlt => ?_) <;> (try simp only [decide_eq_true_eq, decide_eq_false_iff_not, beq_iff_eq, beq_eq_false_iff_ne, bne_iff_ne, bne_eq_false_iff_eq, Bool.not_eq_true', Bool.not_eq_false', Bool.not_eq_true, Bool.not_eq_false, ne_eq, Int.not_lt, Int.not_le, Bool.and_eq_true, Bool.or_eq_true, Bool.or_eq_false_iff, Bool.and_eq_false_imp, strOf_toList, Decidable.not_not] at hlt)
    · skip
      have hk : k < e.used.length := by omega
      refine AW.skip ?_
      refine AQ.thenN ?_
      refine AW.seq ?_
      refine AW.block ?_
      refine AW.seq ?_
      refine AW.region ?_
      refine AO.op (O.idxR rfl rfl rfl ⟨(by omega), (by omega)⟩) rfl rfl rfl ?_
      refine AO.op (O.loadRK rfl rfl (by exact getU (by omega) (by omega)) (by rfl)) rfl rfl rfl ?_
      refine AO.opB (O.alloc rfl (by (dsimp only [List.set, List.append, List.cons_append, List.nil_append, roB_cells, roI_cells, roO_cells, roW_cells, roU_cells, roH_cells, splice, ofConst, AV.cells, List.map, List.map_cons, List.map_nil, List.take, List.drop, Nat.zero_add, Nat.add_zero, Nat.reduceAdd, Nat.reduceMul, Nat.zero_mul, Value.cells, List.toList_toArray, zerosA, List.replicate, List.flatten, List.append_nil]; done)) (by rfl)) rfl rfl rfl ?_
      intro B2
      (refine AO.store (i := 0) rfl rfl rfl rfl rfl rfl (by rfl) (by rfl) (by rfl) (by (dsimp only [List.set, List.append, List.cons_append, List.nil_append, roB_cells, roI_cells, roO_cells, roW_cells, roU_cells, roH_cells, splice, ofConst, AV.cells, List.map, List.map_cons, List.map_nil, List.take, List.drop, Nat.zero_add, Nat.add_zero, Nat.reduceAdd, Nat.reduceMul, Nat.zero_mul, Value.cells, List.toList_toArray, zerosA, List.replicate, List.flatten, List.append_nil]; done)) (by (dsimp only [List.set, List.append, List.cons_append, List.nil_append, roB_cells, roI_cells, roO_cells, roW_cells, roU_cells, roH_cells, splice, ofConst, AV.cells, List.map, List.map_cons, List.map_nil, List.take, List.drop, Nat.zero_add, Nat.add_zero, Nat.reduceAdd, Nat.reduceMul, Nat.zero_mul, Value.cells, List.toList_toArray, zerosA, List.replicate, List.flatten, List.append_nil]; done)) ?_)
      refine AO.nil ?_
      refine AQ.thenN ?_
      refine AW.seq ?_
      refine AW.region ?_
      refine AO.op (O.fieldAddr rfl rfl) rfl rfl rfl ?_
      refine AO.op (O.load rfl rfl (by repeat (exact List.Mem.head _)) (by rfl)) rfl rfl rfl ?_
      refine AO.op (O.call rfl Try.func37 rfl rfl rfl (peerOK_fn _)) rfl rfl rfl ?_
      refine AO.op (O.not rfl rfl (by rfl)) rfl rfl rfl ?_
      refine AO.op (O.move rfl rfl) rfl rfl rfl ?_
      refine AO.opG rfl rfl rfl (fun hp => O.fieldAddr rfl rfl) ?_
      refine AO.opG rfl rfl rfl (fun hp => OpW.force 27 rfl (by exact hp) (O.load rfl rfl (by repeat (exact List.Mem.head _)) (by rfl))) ?_
      refine AO.opG rfl rfl rfl (fun hp => OpW.force 28 rfl (by exact hp) (O.call rfl Try.func36 rfl rfl rfl (idOK_fn _))) ?_
      refine AO.opG rfl rfl rfl (fun hp => OpW.force 29 rfl (by exact hp) (O.not rfl rfl (by rfl))) ?_
      refine AO.op (O.pickOr rfl rfl rfl rfl (fun h => by exact congrArg (fun b => !b) h)) rfl rfl rfl ?_
      refine AO.op (O.move rfl rfl) rfl rfl rfl ?_
      refine AO.opG rfl rfl rfl (fun hp => O.fieldAddr rfl rfl) ?_
      refine AO.opG rfl rfl rfl (fun hp => OpW.force 33 rfl (by exact hp) (O.load rfl rfl (by repeat (exact List.Mem.head _)) (by rfl))) ?_
      refine AO.opG rfl rfl rfl (fun hp => OpW.force 34 rfl (by exact hp) (O.lss rfl rfl rfl (by rfl))) ?_
      refine AO.op (O.pickOr rfl rfl rfl rfl (fun h => by exact congrArg (fun b => !b) h)) rfl rfl rfl ?_
      refine AO.nil ?_
      refine AQ.thenN ?_
      rw [show (!decide (PeerOk (us e.used k).peer) || !decide (IdOk (us e.used k).id) || decide ((us e.used k).till < 0)) = !decide (OkU (us e.used k)) from chU_eq _]
      refine AW.split rfl (fun h36 => ?_) (fun h36 => ?_) <;> (try simp only [decide_eq_true_eq, decide_eq_false_iff_not, beq_iff_eq, beq_eq_false_iff_ne, bne_iff_ne, bne_eq_false_iff_eq, Bool.not_eq_true', Bool.not_eq_false', Bool.not_eq_true, Bool.not_eq_false, ne_eq, Int.not_lt, Int.not_le, Bool.and_eq_true, Bool.or_eq_true, Bool.or_eq_false_iff, Bool.and_eq_false_imp, strOf_toList, Decidable.not_not] at h36)
      · skip
        refine AW.seq ?_
        refine AW.region ?_
        refine AO.op (O.assign rfl rfl) rfl rfl rfl ?_
        refine AO.nil ?_
        refine AQ.thenN ?_
        refine AW.ret ?_
        refine AQ.blockR ?_
        refine AQ.thenR ?_
        refine AQ.loopR ?_
        refine AQ.blockR ?_
        refine AQ.thenR ?_
        refine AQ.ret1 rfl rfl ⟨_, List.nil_sublist _, .nil⟩ (retD (decide_eq_false fun hh => h36 ((UOkTo.succ hk).1 (UOkTo.mono ((valE_iff e).1 hh).2.1)).2).symm)
      · skip
        refine AW.skip ?_
        refine AQ.blockN ?_
        refine AQ.thenN ?_
        refine AW.region ?_
        refine AO.op (O.add rfl rfl rfl (by exact wI64 (by omega))) rfl rfl rfl ?_
        refine AO.op (O.move rfl rfl) rfl rfl rfl ?_
        refine AO.nil ?_
        refine AQ.loopKN _ _ _ (by omega) (⟨k + 1, by omega, (UOkTo.succ hk).2 ⟨ha, h36⟩, rfl, rfl, rfl⟩) (by repeat (first | exact envNil | refine envCons rfl ?_)) (by repeat (first | exact envNil | refine envCons rfl ?_)) (by repeat (first | exact subPnil | refine subPcons 1 rfl ?_))
    · skip
      obtain rfl : k = e.used.length := by omega
      refine AW.exit ?_
      refine AQ.thenX ?_
      refine AQ.loopX ?_
      refine AQ.blockX rfl ?_
      refine AQ.thenN ?_
      refine AW.seq ?_
      refine AW.region ?_
      refine AO.op (O.fieldAddr rfl rfl) rfl rfl rfl ?_
      refine AO.op (O.load rfl rfl (by repeat (exact List.Mem.head _)) (by rfl)) rfl rfl rfl ?_
      refine AO.op (O.call rfl Try.func38 rfl rfl rfl (waitingOK_fn e.out)) rfl rfl rfl ?_
      refine AO.op (O.move rfl rfl) rfl rfl rfl ?_
      refine AO.opG rfl rfl rfl (fun hp => O.fieldAddr rfl rfl) ?_
      refine AO.opG rfl rfl rfl (fun hp => OpW.force 42 rfl (by exact hp) (O.load rfl rfl (by repeat (exact List.Mem.head _)) (by rfl))) ?_
      refine AO.opG rfl rfl rfl (fun hp => OpW.force 43 rfl (by exact hp) (O.call rfl Try.func39 rfl rfl rfl (heardOK_fn e.inn hb.2.2.2))) ?_
      refine AO.op (O.pickAnd rfl rfl rfl rfl (fun h => by exact h)) rfl rfl rfl ?_
      refine AO.op (O.assign rfl rfl) rfl rfl rfl ?_
      refine AO.nil ?_
      refine AQ.thenN ?_
      refine AW.ret ?_
      refine AQ.ret1 rfl rfl ⟨_, List.nil_sublist _, .nil⟩ (retD (by rw [and_dec]; refine decide_eq_decide.2 ?_; rw [valE_iff]; exact ⟨fun hh => ⟨by omega, ha, hh⟩, fun hh => hh.2.2⟩))
end Go.Proofs.Ytdnmilmcdbgppaa.By

namespace Go.Proofs.Ytdnmilmcdbgppaa.By
open Go.RowKit L A
set_option linter.unusedVariables false
set_option maxRecDepth 20000
set_option linter.unusedSimpArgs false
attribute [local irreducible] AW AQ AO
end Go.Proofs.Ytdnmilmcdbgppaa.By

namespace Go.Proofs.Ytdnmilmcdbgppaa.By
open Go.RowKit L A
set_option linter.unusedVariables false
set_option maxRecDepth 20000
set_option linter.unusedSimpArgs false
attribute [local irreducible] AW AQ AO
abbrev zO : Value := .agg #[.int .i64 0, .slice none 0 0]
def zOpts (n : Nat) : List AV := zerosA n zO
theorem zeros_opt (n : Nat) : zOpts (n + 1) = .val (.int .i64 0) :: .val (.slice none 0 0) :: zOpts n := by
  unfold zOpts zerosA
  rw [List.replicate_succ, List.flatten_cons]
  rfl
theorem splice_opt {os : List Opt} {k : Nat} (h : k < os.length) {j : Nat} (hj : j = k * 2) : splice (optsA (os.take k) ++ zOpts (os.length - k)) j [.val (.int .i64 (oat os k).num), roB (oat os k).val] = optsA (os.take (k + 1)) ++ zOpts (os.length - (k + 1)) := by
  have hl : (optsA (os.take k)).length = k * 2 := by rw [optsA_len, List.length_take]; omega
  obtain ⟨m, hm⟩ : ∃ m, os.length - k = m + 1 := ⟨os.length - k - 1, by omega⟩
  rw [take_snoc Opt.none h, optsA_snoc, hm, show os.length - (k + 1) = m by omega, zeros_opt, hj]
  show ((optsA (os.take k) ++ AV.val (.int .i64 0) :: AV.val (.slice none 0 0) :: zOpts m).set (k * 2) _).set (k * 2 + 1) _ = _
  rw [← hl, List.set_append_right _ _ (Nat.le_refl _), Nat.sub_self, List.set_cons_zero, List.set_append_right _ _ (Nat.le_succ _), show ∀ n : Nat, n.succ - n = 1 from fun n => by omega, List.set_cons_succ, List.set_cons_zero, List.append_assoc]
  rfl
theorem zerosOpt_len (n : Nat) : (zOpts n).length = n * 2 := by
  induction n with
  | zero => rfl
  | succ n ih => rw [zeros_opt, List.length_cons, List.length_cons, ih]; omega
set_option maxHeartbeats 4000000 in
theorem message_fn (m : Msg) (h : SmM m) : Sp Try.prog 47 [aggM m] [] (Is (aggM m)) := by
  have hat := fun k => SmM.at h (k := k)
  obtain ⟨h1, h2, h3, -⟩ := h
  refine Sp.enter Try.func47 rfl _ Try.ntmps47 rfl (fun w0 R0 => ?_)
  refine AW.seq ?_
  refine AW.region ?_
  refine AO.opB (O.box rfl rfl rfl rfl rfl) rfl rfl rfl ?_
  intro B1
  refine AO.opB (O.alloc rfl (by (dsimp only [zerosA, List.replicate, List.append, List.flatten, AV.cells, Value.cells, List.toList_toArray, List.map]; done)) (by rfl)) rfl rfl rfl ?_
  intro B2
  refine AO.nil ?_
  refine AQ.thenN ?_
  refine AW.seq ?_
  refine AW.regionD 7 (by kernel_rfl) (by kernel_rfl) ?_
  simp only [List.take_succ_cons, List.take_zero, List.drop_succ_cons, List.drop_zero]
  refine FA.op (O.fieldAddr rfl rfl) rfl rfl rfl rfl ?_
  refine FA.op (O.load rfl rfl (by repeat (first | exact List.Mem.head _ | refine List.Mem.tail _ ?_)) (by rfl)) rfl rfl rfl rfl ?_
  refine FA.op (O.call rfl Try.func58 rfl rfl rfl (clone_fn _ (by assumption))) rfl rfl rfl rfl ?_
  refine FA.op (O.fieldAddr rfl rfl) rfl rfl rfl rfl ?_
  refine FA.op (O.load rfl rfl (by repeat (first | exact List.Mem.head _ | refine List.Mem.tail _ ?_)) (by rfl)) rfl rfl rfl rfl ?_
  refine FA.op (O.call rfl Try.func58 rfl rfl rfl (clone_fn _ (by assumption))) rfl rfl rfl rfl ?_
  refine FA.op (O.fieldAddr rfl rfl) rfl rfl rfl rfl ?_
  refine FA.nil ?_
  simp only [chosen, List.nil_append, List.cons_append, List.append_nil]
  (refine AO.store (i := 1) rfl rfl rfl rfl rfl rfl (by rfl) (by rfl) (by rfl) (by (dsimp only [List.set, List.cons_append, List.nil_append, List.take, List.drop]; done)) (by (dsimp only [List.set, List.cons_append, List.nil_append, List.take, List.drop]; done)) ?_)
  refine AO.op (O.fieldAddr rfl rfl) rfl rfl rfl ?_
  (refine AO.store (i := 1) rfl rfl rfl rfl rfl rfl (by rfl) (by rfl) (by rfl) (by (dsimp only [List.set, List.cons_append, List.nil_append, List.take, List.drop]; done)) (by (dsimp only [List.set, List.cons_append, List.nil_append, List.take, List.drop]; done)) ?_)
  refine AO.nil ?_
  refine AQ.thenN ?_
  refine AW.seq ?_
  refine AW.region ?_
  refine AO.op (O.fieldAddr rfl rfl) rfl rfl rfl ?_
  refine AO.op (O.load rfl rfl (by repeat (first | exact List.Mem.head _ | refine List.Mem.tail _ ?_)) (by rfl)) rfl rfl rfl ?_
  refine AO.op (O.lenR rfl rfl) rfl rfl rfl ?_
  refine AO.opB (O.makeSlice rfl rfl rfl (by rfl) (by rfl) (by omega) (by (unfold maxLen; omega)) (by rfl)) rfl rfl rfl ?_
  intro B3
  refine AO.op (O.assign rfl rfl) rfl rfl rfl ?_
  refine AO.nil ?_
  refine AQ.thenN ?_
  refine AW.seq ?_
  refine AW.seq ?_
  refine AW.region ?_
  refine AO.op (O.fieldAddr rfl rfl) rfl rfl rfl ?_
  refine AO.op (O.load rfl rfl (by repeat (first | exact List.Mem.head _ | refine List.Mem.tail _ ?_)) (by rfl)) rfl rfl rfl ?_
  refine AO.op (O.lenR rfl rfl) rfl rfl rfl ?_
  refine AO.op (O.move rfl rfl) rfl rfl rfl ?_
  refine AO.nil ?_
  refine AQ.thenN ?_
  refine AW.block ?_
  have hz : (m.opts.take 0 : List Opt) = [] := rfl
  refine AW.loopK [(1, _), (2, _), (3, _), (19, _), (20, _)] (fun nn E H => ∃ (k : Nat), (k ≤ m.opts.length) ∧ nn = m.opts.length - k ∧ E = [(21, .val (.int .i64 (k : Int)))] ∧ H = [.blk B3 88 (m.opts.length * 2) (optsA (m.opts.take k) ++ zOpts (m.opts.length - k)), .blk B2 31 6 [.val (.int .i64 0), .val (.int .i64 0), .val (.int .i64 0), .val (.slice none 0 0), .val (.slice none 0 0), .val (.slice none 0 0)], .blk B1 31 6 [.val (.int .i64 m.ty), .val (.int .i64 m.code), .val (.int .i64 m.id), roB m.tok, roO m.opts, roB m.pay]]) _ (⟨0, by omega, rfl, rfl, rfl⟩) (by repeat (first | exact envNil | refine envCons rfl ?_)) (by repeat (first | exact envNil | refine envCons rfl ?_)) (by repeat (first | exact subPnil | refine subPcons 0 rfl ?_)) ?_
  rintro nn E H ⟨k, hk1, rfl, rfl, rfl⟩
  dsimp only [List.cons_append, List.nil_append]
  refine AW.seq ?_
  refine AW.region ?_
  refine AO.op (O.lss rfl rfl rfl (by rfl)) rfl rfl rfl ?_
  refine AO.nil ?_
  refine AQ.thenN ?_
  refine AW.seq ?_
  refine AW.split rfl (fun hlt => ?_) (fun hlt => ?_) <;> (try simp only [decide_eq_true_eq, decide_eq_false_iff_not, beq_iff_eq, beq_eq_false_iff_ne, bne_iff_ne, bne_eq_false_iff_eq, Bool.not_eq_true', Bool.not_eq_false', Bool.not_eq_true, Bool.not_eq_false, ne_eq, Int.not_lt, Int.not_le, Bool.and_eq_true, Bool.or_eq_true, Bool.or_eq_false_iff, Bool.and_eq_false_imp, strOf_toList, Decidable.not_not] at hlt)
  · skip
    have hk : k < m.opts.length := by omega
    have hv := hat k hk
    have hbl : (optsA (m.opts.take k) ++ zOpts (m.opts.length - k)).length = m.opts.length * 2 := by rw [List.length_append, optsA_len, zerosOpt_len, List.length_take]; omega
    refine AW.skip ?_
    refine AQ.thenN ?_
    refine AW.seq ?_
    refine AW.block ?_
    refine AW.seq ?_
    refine AW.region ?_
    refine AO.op (O.move rfl rfl) rfl rfl rfl ?_
    refine AO.op (O.idxR rfl rfl rfl ⟨(by omega), (by omega)⟩) rfl rfl rfl ?_
    refine AO.op (O.loadRK rfl rfl (by exact getO (by omega) (by omega)) (by rfl)) rfl rfl rfl ?_
    refine AO.opB (O.alloc rfl (by (dsimp only [zerosA, List.replicate, List.append, List.flatten, AV.cells, Value.cells, List.toList_toArray, List.map]; done)) (by rfl)) rfl rfl rfl ?_
    intro B4
    refine AO.op (O.assign rfl rfl) rfl rfl rfl ?_
    (refine AO.store (i := 0) rfl rfl rfl rfl rfl rfl (by rfl) (by rfl) (by rfl) (by rfl) (by (dsimp only [List.set, List.cons_append, List.nil_append, List.take, List.drop]; done)) ?_)
    refine AO.nil ?_
    refine AQ.thenN ?_
    refine AW.regionD 9 (by kernel_rfl) (by kernel_rfl) ?_
    simp only [List.take_succ_cons, List.take_zero, List.drop_succ_cons, List.drop_zero]
    refine FA.op (O.move rfl rfl) rfl rfl rfl rfl ?_
    refine FA.op (O.move rfl rfl) rfl rfl rfl rfl ?_
    refine FA.op (O.fieldAddr rfl rfl) rfl rfl rfl rfl ?_
    refine FA.op (O.load rfl rfl (by repeat (exact List.Mem.head _)) (by rfl)) rfl rfl rfl rfl ?_
    refine FA.op (O.fieldAddr rfl rfl) rfl rfl rfl rfl ?_
    refine FA.op (O.load rfl rfl (by repeat (exact List.Mem.head _)) (by rfl)) rfl rfl rfl rfl ?_
    refine FA.op (O.call rfl Try.func58 rfl rfl rfl (clone_fn _ (by assumption))) rfl rfl rfl rfl ?_
    refine FA.op (O.build rfl rfl rfl (by rfl)) rfl rfl rfl rfl ?_
    refine FA.op (O.idxV rfl rfl rfl ⟨(by omega), (by omega)⟩) rfl rfl rfl rfl ?_
    refine FA.nil ?_
    simp only [chosen, List.nil_append, List.cons_append, List.append_nil]
    (refine AO.store (i := 1) rfl rfl rfl rfl rfl rfl (by rfl) (by rfl) (by exact Nat.ble_eq_true_of_le (by rw [hbl]; omega)) (by exact splice_opt hk (by omega)) (by (dsimp only [List.set, List.cons_append, List.nil_append, List.take, List.drop]; done)) ?_)
    refine AO.nil ?_
    refine AQ.blockN ?_
    refine AQ.thenN ?_
    refine AW.region ?_
    refine AO.op (O.add rfl rfl rfl (by exact wI64 (by omega))) rfl rfl rfl ?_
    refine AO.op (O.move rfl rfl) rfl rfl rfl ?_
    refine AO.nil ?_
    refine AQ.loopKN _ _ _ (by omega) (⟨k + 1, by omega, rfl, rfl, rfl⟩) (by repeat (first | exact envNil | refine envCons rfl ?_)) (by repeat (first | exact envNil | refine envCons rfl ?_)) (by repeat (first | exact subPnil | refine subPcons 1 rfl ?_))
  · skip
    obtain rfl : k = m.opts.length := by omega
    rw [List.take_length, Nat.sub_self, show zOpts 0 = [] from rfl, List.append_nil]
    refine AW.g ?_
    refine G.closeRow (n := m.opts.length) (sz := 2) (cap := m.opts.length) 0 rfl (optsA_len _) rfl (Nat.le_refl _) (by (unfold maxLen; omega)) ?_
    refine AW.u ?_
    dsimp only [List.set]
    refine AW.g ?_
    refine G.freezeRow 0 rfl [3] (by repeat (first | exact frNil | refine frCons rfl ?_)) ?_
    refine AW.u ?_
    try dsimp only [List.map, List.eraseIdx, List.cons_append, List.nil_append]
    refine AW.exit ?_
    refine AQ.thenX ?_
    refine AQ.loopX ?_
    refine AQ.blockX rfl ?_
    refine AQ.thenN ?_
    refine AW.seq ?_
    refine AW.region ?_
    refine AO.op (O.move rfl rfl) rfl rfl rfl ?_
    refine AO.op (O.fieldAddr rfl rfl) rfl rfl rfl ?_
    (refine AO.store (i := 1) rfl rfl rfl rfl rfl rfl (by rfl) (by rfl) (by rfl) (by (dsimp only [List.set, List.cons_append, List.nil_append, List.take, List.drop]; done)) (by (dsimp only [List.set, List.cons_append, List.nil_append, List.take, List.drop]; done)) ?_)
    refine AO.nil ?_
    refine AQ.thenN ?_
    refine AW.seq ?_
    refine AW.region ?_
    refine AO.op (O.loadK rfl rfl (by repeat (first | exact List.Mem.head _ | refine List.Mem.tail _ ?_)) (by rfl) (by rfl)) rfl rfl rfl ?_
    (refine AO.store (i := 0) rfl rfl rfl rfl rfl rfl (by rfl) (by rfl) (by rfl) (by (dsimp only [List.set, List.cons_append, List.nil_append, List.take, List.drop]; done)) (by (dsimp only [List.set, List.cons_append, List.nil_append, List.take, List.drop]; done)) ?_)
    refine AO.nil ?_
    refine AQ.thenN ?_
    refine AW.ret ?_
    refine AQ.retCell rfl rfl (by repeat (exact List.Mem.head _)) (by rfl) rfl ⟨_, List.nil_sublist _, .nil⟩ (⟨rfl, rfl⟩)
end Go.Proofs.Ytdnmilmcdbgppaa.By

namespace Go.Proofs.Ytdnmilmcdbgppaa.By
open Go.RowKit L A
set_option linter.unusedVariables false
set_option maxRecDepth 20000
set_option linter.unusedSimpArgs false
attribute [local irreducible] AW AQ AO
def liveU (now : Int) (u : Us) : Bool := decide (now < u.till)
def liveH (now : Int) (h : Hd) : Bool := decide (now < h.till)
def cleanE (e : Ep) (now : Int) : Ep := ⟨e.next, e.out, e.used.filter (liveU now), e.inn.filter (liveH now)⟩
theorem filt_succ {α : Type} (p : α → Bool) (d : α) {l : List α} {k : Nat} (h : k < l.length) : (l.take (k + 1)).filter p = (l.take k).filter p ++ (if p (l.getD k d) = true then [l.getD k d] else []) := by
  rw [take_snoc d h, List.filter_append]
  congr 1
  generalize l.getD k d = x
  cases hp : p x <;> simp [hp]
theorem filt_len {α : Type} (p : α → Bool) (l : List α) (k : Nat) : ((l.take k).filter p).length ≤ k := Nat.le_trans (List.length_filter_le _ _) (by rw [List.length_take]; omega)
structure SmE (e : Ep) : Prop where
  o : e.out.length ≤ 1000
  u : e.used.length ≤ 1000
  i : e.inn.length ≤ 1000
  om : ∀ w ∈ e.out, SmM w.m
  im : ∀ h ∈ e.inn, SmM h.m
/-- An endpoint whose lists are rows of the caller's own. -/
def NewE (e : Ep) (r : AV) (Hn : List HE) : Prop := ∃ V1 V2 V3 : Value, V1.oneCell' = true ∧ V2.oneCell' = true ∧ V3.oneCell' = true ∧ r = .agg [.val (.int .i64 e.next), .val V1, .val V2, .val V3] ∧
  Hn = [.row V3 63 10 e.inn.length (hdsA e.inn), .row V2 60 3 e.used.length (ussA e.used), .row V1 71 9 e.out.length (wtsA e.out)]
abbrev nilS : Value := .slice none 0 0
set_option maxHeartbeats 4000000 in
theorem cleaned_fn (e : Ep) (now : Int) (hs : SmE e) : Sp Try.prog 45 [aggE e, .val (.int .i64 now)] [] (NewE (cleanE e now)) := by
  have hs1 := hs.o
  have hs2 := hs.u
  have hs3 := hs.i
  refine Sp.enter Try.func45 rfl _ Try.ntmps45 rfl (fun w0 R0 => ?_)
  refine AW.seq ?_
  refine AW.region ?_
  refine AO.opB (O.box rfl rfl rfl rfl rfl) rfl rfl rfl ?_
  intro B1
  refine AO.opB (O.alloc rfl (by (dsimp only [zerosA, List.replicate, List.append, List.flatten, AV.cells, Value.cells, List.toList_toArray, List.map]; done)) (by rfl)) rfl rfl rfl ?_
  intro B2
  refine AO.nil ?_
  refine AQ.thenN ?_
  refine AW.seq ?_
  refine AW.region ?_
  refine AO.op (O.fieldAddr rfl rfl) rfl rfl rfl ?_
  refine AO.op (O.load rfl rfl (by repeat (first | exact List.Mem.head _ | refine List.Mem.tail _ ?_)) (by rfl)) rfl rfl rfl ?_
  refine AO.op (O.build rfl rfl rfl (by rfl)) rfl rfl rfl ?_
  refine AO.opB (O.alloc rfl (by (dsimp only [zerosA, List.replicate, List.append, List.flatten, AV.cells, Value.cells, List.toList_toArray, List.map]; done)) (by rfl)) rfl rfl rfl ?_
  intro B3
  (refine AO.store (i := 0) rfl rfl rfl rfl rfl rfl (by rfl) (by rfl) (by rfl) (by (dsimp only [List.set, List.cons_append, List.nil_append, List.take, List.drop]; done)) (by (dsimp only [List.set, List.cons_append, List.nil_append, List.take, List.drop]; done)) ?_)
  refine AO.nil ?_
  refine AQ.thenN ?_
  refine AW.seq ?_
  refine AW.seq ?_
  refine AW.region ?_
  refine AO.op (O.fieldAddr rfl rfl) rfl rfl rfl ?_
  refine AO.op (O.load rfl rfl (by repeat (first | exact List.Mem.head _ | refine List.Mem.tail _ ?_)) (by rfl)) rfl rfl rfl ?_
  refine AO.op (O.lenR rfl rfl) rfl rfl rfl ?_
  refine AO.op (O.move rfl rfl) rfl rfl rfl ?_
  refine AO.nil ?_
  refine AQ.thenN ?_
  refine AW.block ?_
  refine AW.g ?_
  refine G.nilRow 71 9 ?_
  refine AW.u ?_
  refine AW.loopK [(1, _), (2, _), (4, _), (5, _), (16, _), (17, _)] (fun nn E H => ∃ (k : Nat) (V : Value), (k ≤ e.out.length) ∧ (V.oneCell' = true) ∧ nn = e.out.length - k ∧ E = [(18, .val (.int .i64 (k : Int)))] ∧ H = [.row V 71 9 k (wtsA (e.out.take k)), .blk B3 26 4 [.val (.int .i64 e.next), .val V, .val nilS, .val nilS], .blk B2 26 4 [.val (.int .i64 0), .val nilS, .val nilS, .val nilS], .blk B1 26 4 [.val (.int .i64 e.next), roW e.out, roU e.used, roH e.inn]]) _ (⟨0, nilS, by omega, rfl, rfl, rfl, rfl⟩) (by repeat (first | exact envNil | refine envCons rfl ?_)) (by repeat (first | exact envNil | refine envCons rfl ?_)) (by repeat (first | exact subPnil | refine subPcons 0 rfl ?_)) ?_
  rintro nn E H ⟨k, V, hk1, hV, rfl, rfl, rfl⟩
  dsimp only [List.cons_append, List.nil_append]
  refine AW.seq ?_
  refine AW.region ?_
  refine AO.op (O.lss rfl rfl rfl (by rfl)) rfl rfl rfl ?_
  refine AO.nil ?_
  refine AQ.thenN ?_
  refine AW.seq ?_
  refine AW.split rfl (fun hlt => ?_) (fun hlt => ?_) <;> (try simp only [decide_eq_true_eq, decide_eq_false_iff_not, beq_iff_eq, beq_eq_false_iff_ne, bne_iff_ne, bne_eq_false_iff_eq, Bool.not_eq_true', Bool.not_eq_false', Bool.not_eq_true, Bool.not_eq_false, ne_eq, Int.not_lt, Int.not_le, Bool.and_eq_true, Bool.or_eq_true, Bool.or_eq_false_iff, Bool.and_eq_false_imp, strOf_toList, Decidable.not_not] at hlt)
  · skip
    have hk : k < e.out.length := by omega
    have hsc : wtsA (e.out.take (k + 1)) = wtsA (e.out.take k) ++ cW (wt e.out k) := by rw [take_snoc Wt.none hk, wtsA_snoc]
    refine AW.skip ?_
    refine AQ.thenN ?_
    refine AW.seq ?_
    refine AW.block ?_
    refine AW.seq ?_
    refine AW.region ?_
    refine AO.op (O.idxR rfl rfl rfl ⟨(by omega), (by omega)⟩) rfl rfl rfl ?_
    refine AO.op (O.loadRK rfl rfl (by exact getW (by omega) (by omega)) (by rfl)) rfl rfl rfl ?_
    refine AO.opB (O.alloc rfl (by (dsimp only [zerosA, List.replicate, List.append, List.flatten, AV.cells, Value.cells, List.toList_toArray, List.map]; done)) (by rfl)) rfl rfl rfl ?_
    intro B4
    (refine AO.store (i := 0) rfl rfl rfl rfl rfl rfl (by rfl) (by rfl) (by rfl) (by (dsimp only [List.set, List.cons_append, List.nil_append, List.take, List.drop]; done)) (by (dsimp only [List.set, List.cons_append, List.nil_append, List.take, List.drop]; done)) ?_)
    refine AO.nil ?_
    refine AQ.thenN ?_
    refine AW.seq ?_
    refine AW.region ?_
    refine AO.op (O.fieldAddr rfl rfl) rfl rfl rfl ?_
    refine AO.op (O.loadK rfl rfl (by repeat (exact List.Mem.head _)) (by rfl) (by rfl)) rfl rfl rfl ?_
    refine AO.op (O.call rfl Try.func47 rfl rfl rfl (message_fn (wt e.out k).m (hs.om _ (getD_mem _ hk)))) rfl rfl rfl ?_
    refine AO.op (O.fieldAddr rfl rfl) rfl rfl rfl ?_
    (refine AO.store (i := 0) rfl rfl rfl rfl rfl rfl (by rfl) (by rfl) (by rfl) (by (dsimp only [List.set, List.cons_append, List.nil_append, List.take, List.drop]; done)) (by (dsimp only [List.set, List.cons_append, List.nil_append, List.take, List.drop]; done)) ?_)
    refine AO.nil ?_
    refine AQ.thenN ?_
    refine AW.region ?_
    refine AO.op (O.fieldAddr rfl rfl) rfl rfl rfl ?_
    refine AO.op (O.load rfl rfl (by repeat (first | exact List.Mem.head _ | refine List.Mem.tail _ ?_)) (by rfl)) rfl rfl rfl ?_
    refine AO.op (O.loadK rfl rfl (by repeat (exact List.Mem.head _)) (by rfl) (by rfl)) rfl rfl rfl ?_
    refine AO.opB (O.buildSlice rfl rfl rfl (by rfl) (by rfl) (by rfl) (by rfl)) rfl rfl rfl ?_
    intro B5
    refine AO.g ?_
    (refine G.freezeSl 0 29 rfl rfl ⟨Nat.le_refl _, by unfold maxLen; omega⟩ ?_)
    refine G.unfull 29 rfl ?_
    refine AO.u ?_
    dsimp only [List.eraseIdx]
    (refine AO.append' (i := 1) rfl rfl rfl rfl (by rfl) (by rfl) rfl rfl rfl (by exact SrcA.ro TyD.ax (by rfl) (Nat.le_of_ble_eq_true rfl)) (by rfl) (by (unfold maxLen; omega)) (by omega) (by (dsimp only [List.set, List.cons_append, List.nil_append, List.take, List.drop]; done)) (fun _ => by (dsimp only [List.set]; done)) ?_)
    intro V6 hV6
    refine AO.op (O.fieldAddr rfl rfl) rfl rfl rfl ?_
    (refine AO.store (i := 2) rfl rfl rfl rfl rfl rfl (by (simp [AV.cells, AV.one, *]; done)) (by rfl) (by rfl) (by (dsimp only [List.set, List.cons_append, List.nil_append, List.take, List.drop]; done)) (by (dsimp only [List.set, List.cons_append, List.nil_append, List.take, List.drop]; done)) ?_)
    refine AO.nil ?_
    refine AQ.blockN ?_
    refine AQ.thenN ?_
    refine AW.region ?_
    refine AO.op (O.add rfl rfl rfl (by exact wI64 (by omega))) rfl rfl rfl ?_
    refine AO.op (O.move rfl rfl) rfl rfl rfl ?_
    refine AO.nil ?_
    refine AQ.loopKN _ _ _ (by omega) (⟨k + 1, _, by omega, ‹_›, rfl, rfl, by rw [hsc]⟩) (by repeat (first | exact envNil | refine envCons rfl ?_)) (by repeat (first | exact envNil | refine envCons rfl ?_)) (by repeat (first | exact subPnil | refine subPcons 1 rfl ?_))
  · skip
    obtain rfl : k = e.out.length := by omega
    rw [List.take_length]
    refine AW.exit ?_
    refine AQ.thenX ?_
    refine AQ.loopX ?_
    refine AQ.blockX rfl ?_
    refine AQ.thenN ?_
    refine AW.seq ?_
    refine AW.seq ?_
    refine AW.region ?_
    refine AO.op (O.fieldAddr rfl rfl) rfl rfl rfl ?_
    refine AO.op (O.load rfl rfl (by repeat (first | exact List.Mem.head _ | refine List.Mem.tail _ ?_)) (by rfl)) rfl rfl rfl ?_
    refine AO.op (O.lenR rfl rfl) rfl rfl rfl ?_
    refine AO.op (O.move rfl rfl) rfl rfl rfl ?_
    refine AO.nil ?_
    refine AQ.thenN ?_
    refine AW.block ?_
    refine AW.g ?_
    refine G.nilRow 60 3 ?_
    refine AW.u ?_
    refine AW.loopK [(1, _), (2, _), (4, _), (5, _), (34, _), (35, _)] (fun nn E H => ∃ (k : Nat) (V2 : Value), (k ≤ e.used.length) ∧ (V2.oneCell' = true) ∧ nn = e.used.length - k ∧ E = [(36, .val (.int .i64 (k : Int)))] ∧ H = [.row V2 60 3 ((e.used.take k).filter (liveU now)).length (ussA ((e.used.take k).filter (liveU now))), .row V 71 9 e.out.length (wtsA e.out), .blk B3 26 4 [.val (.int .i64 e.next), .val V, .val V2, .val nilS], .blk B2 26 4 [.val (.int .i64 0), .val nilS, .val nilS, .val nilS], .blk B1 26 4 [.val (.int .i64 e.next), roW e.out, roU e.used, roH e.inn]]) _ (⟨0, nilS, by omega, rfl, rfl, rfl, rfl⟩) (by repeat (first | exact envNil | refine envCons rfl ?_)) (by repeat (first | exact envNil | refine envCons rfl ?_)) (by repeat (first | exact subPnil | refine subPcons 0 rfl ?_)) ?_
    rintro nn E H ⟨k, V2, hk1, hV2, rfl, rfl, rfl⟩
    dsimp only [List.cons_append, List.nil_append]
    have hfl := filt_len (liveU now) e.used k
    refine AW.seq ?_
    refine AW.region ?_
    refine AO.op (O.lss rfl rfl rfl (by rfl)) rfl rfl rfl ?_
    refine AO.nil ?_
    refine AQ.thenN ?_
    refine AW.seq ?_
    refine AW.split rfl (fun hlt2 => ?_) (fun hlt2 => ?_) <;> (try simp only [decide_eq_true_eq, decide_eq_false_iff_not, beq_iff_eq, beq_eq_false_iff_ne, bne_iff_ne, bne_eq_false_iff_eq, Bool.not_eq_true', Bool.not_eq_false', Bool.not_eq_true, Bool.not_eq_false, ne_eq, Int.not_lt, Int.not_le, Bool.and_eq_true, Bool.or_eq_true, Bool.or_eq_false_iff, Bool.and_eq_false_imp, strOf_toList, Decidable.not_not] at hlt2)
    · skip
      have hk : k < e.used.length := by omega
      have hf := filt_succ (liveU now) Us.none hk
      refine AW.skip ?_
      refine AQ.thenN ?_
      refine AW.seq ?_
      refine AW.block ?_
      refine AW.seq ?_
      refine AW.region ?_
      refine AO.op (O.idxR rfl rfl rfl ⟨(by omega), (by omega)⟩) rfl rfl rfl ?_
      refine AO.op (O.loadRK rfl rfl (by exact getU (by omega) (by omega)) (by rfl)) rfl rfl rfl ?_
      refine AO.opB (O.alloc rfl (by (dsimp only [zerosA, List.replicate, List.append, List.flatten, AV.cells, Value.cells, List.toList_toArray, List.map]; done)) (by rfl)) rfl rfl rfl ?_
      intro B7
      (refine AO.store (i := 0) rfl rfl rfl rfl rfl rfl (by rfl) (by rfl) (by rfl) (by (dsimp only [List.set, List.cons_append, List.nil_append, List.take, List.drop]; done)) (by (dsimp only [List.set, List.cons_append, List.nil_append, List.take, List.drop]; done)) ?_)
      refine AO.nil ?_
      refine AQ.thenN ?_
      refine AW.seq ?_
      refine AW.region ?_
      refine AO.op (O.fieldAddr rfl rfl) rfl rfl rfl ?_
      refine AO.op (O.load rfl rfl (by repeat (exact List.Mem.head _)) (by rfl)) rfl rfl rfl ?_
      refine AO.op (O.move rfl rfl) rfl rfl rfl ?_
      refine AO.op (O.gtr rfl rfl rfl (by rfl)) rfl rfl rfl ?_
      refine AO.nil ?_
      refine AQ.thenN ?_
      refine AW.split rfl (fun hu => ?_) (fun hu => ?_) <;> (try simp only [decide_eq_true_eq, decide_eq_false_iff_not, beq_iff_eq, beq_eq_false_iff_ne, bne_iff_ne, bne_eq_false_iff_eq, Bool.not_eq_true', Bool.not_eq_false', Bool.not_eq_true, Bool.not_eq_false, ne_eq, Int.not_lt, Int.not_le, Bool.and_eq_true, Bool.or_eq_true, Bool.or_eq_false_iff, Bool.and_eq_false_imp, strOf_toList, Decidable.not_not] at hu)
      · skip
        rw [if_pos (show liveU now (us e.used k) = true from decide_eq_true hu)] at hf
        have hfl2 : ((e.used.take (k + 1)).filter (liveU now)).length = ((e.used.take k).filter (liveU now)).length + 1 := by rw [hf, List.length_append]; rfl
        refine AW.region ?_
        refine AO.op (O.fieldAddr rfl rfl) rfl rfl rfl ?_
        refine AO.op (O.load rfl rfl (by repeat (first | exact List.Mem.head _ | refine List.Mem.tail _ ?_)) (by rfl)) rfl rfl rfl ?_
        refine AO.op (O.loadK rfl rfl (by repeat (exact List.Mem.head _)) (by rfl) (by rfl)) rfl rfl rfl ?_
        refine AO.opB (O.buildSlice rfl rfl rfl (by rfl) (by rfl) (by rfl) (by rfl)) rfl rfl rfl ?_
        intro B8
        refine AO.g ?_
        (refine G.freezeSl 0 47 rfl rfl ⟨Nat.le_refl _, by unfold maxLen; omega⟩ ?_)
        refine G.unfull 47 rfl ?_
        refine AO.u ?_
        dsimp only [List.eraseIdx]
        (refine AO.append' (i := 1) rfl rfl rfl rfl (by rfl) (by rfl) rfl rfl rfl (by exact SrcA.ro TyD.ax (by rfl) (Nat.le_of_ble_eq_true rfl)) (by rfl) (by (unfold maxLen; omega)) (by omega) (by (dsimp only [List.set, List.cons_append, List.nil_append, List.take, List.drop]; done)) (fun _ => by (dsimp only [List.set]; done)) ?_)
        intro V9 hV9
        refine AO.op (O.fieldAddr rfl rfl) rfl rfl rfl ?_
        (refine AO.store (i := 3) rfl rfl rfl rfl rfl rfl (by (simp [AV.cells, AV.one, *]; done)) (by rfl) (by rfl) (by (dsimp only [List.set, List.cons_append, List.nil_append, List.take, List.drop]; done)) (by (dsimp only [List.set, List.cons_append, List.nil_append, List.take, List.drop]; done)) ?_)
        refine AO.nil ?_
        refine AQ.blockN ?_
        refine AQ.thenN ?_
        refine AW.region ?_
        refine AO.op (O.add rfl rfl rfl (by exact wI64 (by omega))) rfl rfl rfl ?_
        refine AO.op (O.move rfl rfl) rfl rfl rfl ?_
        refine AO.nil ?_
        refine AQ.loopKN _ _ _ (by omega) (⟨k + 1, _, by omega, ‹_›, rfl, rfl, by rw [hfl2, hf, ussA_snoc]⟩) (by repeat (first | exact envNil | refine envCons rfl ?_)) (by repeat (first | exact envNil | refine envCons rfl ?_)) (by repeat (first | exact subPnil | refine subPcons 1 rfl ?_))
      · skip
        rw [if_neg (show ¬ liveU now (us e.used k) = true from fun h => absurd (of_decide_eq_true h) (by omega)), List.append_nil] at hf
        refine AW.skip ?_
        refine AQ.blockN ?_
        refine AQ.thenN ?_
        refine AW.region ?_
        refine AO.op (O.add rfl rfl rfl (by exact wI64 (by omega))) rfl rfl rfl ?_
        refine AO.op (O.move rfl rfl) rfl rfl rfl ?_
        refine AO.nil ?_
        refine AQ.loopKN _ _ _ (by omega) (⟨k + 1, V2, by omega, hV2, rfl, rfl, by rw [hf]⟩) (by repeat (first | exact envNil | refine envCons rfl ?_)) (by repeat (first | exact envNil | refine envCons rfl ?_)) (by repeat (first | exact subPnil | refine subPcons 1 rfl ?_))
    · skip
      obtain rfl : k = e.used.length := by omega
      rw [List.take_length]
      refine AW.exit ?_
      refine AQ.thenX ?_
      refine AQ.loopX ?_
      refine AQ.blockX rfl ?_
      refine AQ.thenN ?_
      refine AW.seq ?_
      refine AW.seq ?_
      refine AW.region ?_
      refine AO.op (O.fieldAddr rfl rfl) rfl rfl rfl ?_
      refine AO.op (O.load rfl rfl (by repeat (first | exact List.Mem.head _ | refine List.Mem.tail _ ?_)) (by rfl)) rfl rfl rfl ?_
      refine AO.op (O.lenR rfl rfl) rfl rfl rfl ?_
      refine AO.op (O.move rfl rfl) rfl rfl rfl ?_
      refine AO.nil ?_
      refine AQ.thenN ?_
      refine AW.block ?_
      refine AW.g ?_
      refine G.nilRow 63 10 ?_
      refine AW.u ?_
      refine AW.loopK [(1, _), (4, _), (5, _), (52, _), (53, _)] (fun nn E H => ∃ (k : Nat) (V3 : Value), (k ≤ e.inn.length) ∧ (V3.oneCell' = true) ∧ nn = e.inn.length - k ∧ E = [(54, .val (.int .i64 (k : Int)))] ∧ H = [.row V3 63 10 ((e.inn.take k).filter (liveH now)).length (hdsA ((e.inn.take k).filter (liveH now))), .row V2 60 3 (e.used.filter (liveU now)).length (ussA (e.used.filter (liveU now))), .row V 71 9 e.out.length (wtsA e.out), .blk B3 26 4 [.val (.int .i64 e.next), .val V, .val V2, .val V3], .blk B2 26 4 [.val (.int .i64 0), .val nilS, .val nilS, .val nilS]]) _ (⟨0, nilS, by omega, rfl, rfl, rfl, rfl⟩) (by repeat (first | exact envNil | refine envCons rfl ?_)) (by repeat (first | exact envNil | refine envCons rfl ?_)) (by repeat (first | exact subPnil | refine subPcons 0 rfl ?_)) ?_
      rintro nn E H ⟨k, V3, hk1, hV3, rfl, rfl, rfl⟩
      dsimp only [List.cons_append, List.nil_append]
      have hfl := filt_len (liveH now) e.inn k
      refine AW.seq ?_
      refine AW.region ?_
      refine AO.op (O.lss rfl rfl rfl (by rfl)) rfl rfl rfl ?_
      refine AO.nil ?_
      refine AQ.thenN ?_
      refine AW.seq ?_
      refine AW.split rfl (fun hlt3 => ?_) (fun hlt3 => ?_) <;> (try simp only [decide_eq_true_eq, decide_eq_false_iff_not, beq_iff_eq, beq_eq_false_iff_ne, bne_iff_ne, bne_eq_false_iff_eq, Bool.not_eq_true', Bool.not_eq_false', Bool.not_eq_true, Bool.not_eq_false, ne_eq, Int.not_lt, Int.not_le, Bool.and_eq_true, Bool.or_eq_true, Bool.or_eq_false_iff, Bool.and_eq_false_imp, strOf_toList, Decidable.not_not] at hlt3)
      · skip
        have hk : k < e.inn.length := by omega
        have hf := filt_succ (liveH now) Hd.none hk
        refine AW.skip ?_
        refine AQ.thenN ?_
        refine AW.seq ?_
        refine AW.block ?_
        refine AW.seq ?_
        refine AW.region ?_
        refine AO.op (O.idxR rfl rfl rfl ⟨(by omega), (by omega)⟩) rfl rfl rfl ?_
        refine AO.op (O.loadRK rfl rfl (by exact getH (by omega) (by omega)) (by rfl)) rfl rfl rfl ?_
        refine AO.opB (O.alloc rfl (by (dsimp only [zerosA, List.replicate, List.append, List.flatten, AV.cells, Value.cells, List.toList_toArray, List.map]; done)) (by rfl)) rfl rfl rfl ?_
        intro B10
        (refine AO.store (i := 0) rfl rfl rfl rfl rfl rfl (by rfl) (by rfl) (by rfl) (by (dsimp only [List.set, List.cons_append, List.nil_append, List.take, List.drop]; done)) (by (dsimp only [List.set, List.cons_append, List.nil_append, List.take, List.drop]; done)) ?_)
        refine AO.nil ?_
        refine AQ.thenN ?_
        refine AW.seq ?_
        refine AW.region ?_
        refine AO.op (O.fieldAddr rfl rfl) rfl rfl rfl ?_
        refine AO.op (O.load rfl rfl (by repeat (exact List.Mem.head _)) (by rfl)) rfl rfl rfl ?_
        refine AO.op (O.move rfl rfl) rfl rfl rfl ?_
        refine AO.op (O.gtr rfl rfl rfl (by rfl)) rfl rfl rfl ?_
        refine AO.nil ?_
        refine AQ.thenN ?_
        refine AW.split rfl (fun hu => ?_) (fun hu => ?_) <;> (try simp only [decide_eq_true_eq, decide_eq_false_iff_not, beq_iff_eq, beq_eq_false_iff_ne, bne_iff_ne, bne_eq_false_iff_eq, Bool.not_eq_true', Bool.not_eq_false', Bool.not_eq_true, Bool.not_eq_false, ne_eq, Int.not_lt, Int.not_le, Bool.and_eq_true, Bool.or_eq_true, Bool.or_eq_false_iff, Bool.and_eq_false_imp, strOf_toList, Decidable.not_not] at hu)
        · skip
          rw [if_pos (show liveH now (hd e.inn k) = true from decide_eq_true hu)] at hf
          have hfl2 : ((e.inn.take (k + 1)).filter (liveH now)).length = ((e.inn.take k).filter (liveH now)).length + 1 := by rw [hf, List.length_append]; rfl
          refine AW.seq ?_
          refine AW.region ?_
          refine AO.op (O.fieldAddr rfl rfl) rfl rfl rfl ?_
          refine AO.op (O.loadK rfl rfl (by repeat (exact List.Mem.head _)) (by rfl) (by rfl)) rfl rfl rfl ?_
          refine AO.op (O.call rfl Try.func47 rfl rfl rfl (message_fn (hd e.inn k).m (hs.im _ (getD_mem _ hk)))) rfl rfl rfl ?_
          refine AO.op (O.fieldAddr rfl rfl) rfl rfl rfl ?_
          (refine AO.store (i := 0) rfl rfl rfl rfl rfl rfl (by rfl) (by rfl) (by rfl) (by (dsimp only [List.set, List.cons_append, List.nil_append, List.take, List.drop]; done)) (by (dsimp only [List.set, List.cons_append, List.nil_append, List.take, List.drop]; done)) ?_)
          refine AO.nil ?_
          refine AQ.thenN ?_
          refine AW.region ?_
          refine AO.op (O.fieldAddr rfl rfl) rfl rfl rfl ?_
          refine AO.op (O.load rfl rfl (by repeat (first | exact List.Mem.head _ | refine List.Mem.tail _ ?_)) (by rfl)) rfl rfl rfl ?_
          refine AO.op (O.loadK rfl rfl (by repeat (exact List.Mem.head _)) (by rfl) (by rfl)) rfl rfl rfl ?_
          refine AO.opB (O.buildSlice rfl rfl rfl (by rfl) (by rfl) (by rfl) (by rfl)) rfl rfl rfl ?_
          intro B11
          refine AO.g ?_
          (refine G.freezeSl 0 69 rfl rfl ⟨Nat.le_refl _, by unfold maxLen; omega⟩ ?_)
          refine G.unfull 69 rfl ?_
          refine AO.u ?_
          dsimp only [List.eraseIdx]
          (refine AO.append' (i := 1) rfl rfl rfl rfl (by rfl) (by rfl) rfl rfl rfl (by exact SrcA.ro TyD.ax (by rfl) (Nat.le_of_ble_eq_true rfl)) (by rfl) (by (unfold maxLen; omega)) (by omega) (by (dsimp only [List.set, List.cons_append, List.nil_append, List.take, List.drop]; done)) (fun _ => by (dsimp only [List.set]; done)) ?_)
          intro V12 hV12
          refine AO.op (O.fieldAddr rfl rfl) rfl rfl rfl ?_
          (refine AO.store (i := 4) rfl rfl rfl rfl rfl rfl (by (simp [AV.cells, AV.one, *]; done)) (by rfl) (by rfl) (by (dsimp only [List.set, List.cons_append, List.nil_append, List.take, List.drop]; done)) (by (dsimp only [List.set, List.cons_append, List.nil_append, List.take, List.drop]; done)) ?_)
          refine AO.nil ?_
          refine AQ.blockN ?_
          refine AQ.thenN ?_
          refine AW.region ?_
          refine AO.op (O.add rfl rfl rfl (by exact wI64 (by omega))) rfl rfl rfl ?_
          refine AO.op (O.move rfl rfl) rfl rfl rfl ?_
          refine AO.nil ?_
          refine AQ.loopKN _ _ _ (by omega) (⟨k + 1, _, by omega, ‹_›, rfl, rfl, by rw [hfl2, hf, hdsA_snoc]⟩) (by repeat (first | exact envNil | refine envCons rfl ?_)) (by repeat (first | exact envNil | refine envCons rfl ?_)) (by repeat (first | exact subPnil | refine subPcons 1 rfl ?_))
        · skip
          rw [if_neg (show ¬ liveH now (hd e.inn k) = true from fun h => absurd (of_decide_eq_true h) (by omega)), List.append_nil] at hf
          refine AW.skip ?_
          refine AQ.blockN ?_
          refine AQ.thenN ?_
          refine AW.region ?_
          refine AO.op (O.add rfl rfl rfl (by exact wI64 (by omega))) rfl rfl rfl ?_
          refine AO.op (O.move rfl rfl) rfl rfl rfl ?_
          refine AO.nil ?_
          refine AQ.loopKN _ _ _ (by omega) (⟨k + 1, V3, by omega, hV3, rfl, rfl, by rw [hf]⟩) (by repeat (first | exact envNil | refine envCons rfl ?_)) (by repeat (first | exact envNil | refine envCons rfl ?_)) (by repeat (first | exact subPnil | refine subPcons 1 rfl ?_))
      · skip
        obtain rfl : k = e.inn.length := by omega
        rw [List.take_length]
        refine AW.exit ?_
        refine AQ.thenX ?_
        refine AQ.loopX ?_
        refine AQ.blockX rfl ?_
        refine AQ.thenN ?_
        refine AW.seq ?_
        refine AW.region ?_
        refine AO.op (O.loadK rfl rfl (by repeat (first | exact List.Mem.head _ | refine List.Mem.tail _ ?_)) (by rfl) (by rfl)) rfl rfl rfl ?_
        (refine AO.store (i := 4) rfl rfl rfl rfl rfl rfl (by (simp [AV.cells, AV.one, roB, roI, roO, show ∀ k z, (Value.int k z).oneCell' = true from fun _ _ => rfl, show ∀ k, (Value.bool k).oneCell' = true from fun _ => rfl, *]; done)) (by rfl) (by rfl) (by (dsimp only [List.set, List.cons_append, List.nil_append, List.take, List.drop]; done)) (by (dsimp only [List.set, List.cons_append, List.nil_append, List.take, List.drop]; done)) ?_)
        refine AO.nil ?_
        refine AQ.thenN ?_
        refine AW.ret ?_
        refine AQ.retCell rfl rfl (by repeat (first | exact List.Mem.head _ | refine List.Mem.tail _ ?_)) (by rfl) rfl ⟨_, by repeat (first | exact List.Sublist.slnil | refine List.Sublist.cons_cons _ ?_ | refine List.Sublist.cons _ ?_), List.Perm.refl _⟩ (⟨V, V2, V3, hV, hV2, hV3, rfl, rfl⟩)
end Go.Proofs.Ytdnmilmcdbgppaa.By

namespace Go.Proofs.Ytdnmilmcdbgppaa.By
open Go.RowKit L A
set_option linter.unusedVariables false
set_option maxRecDepth 20000
set_option linter.unusedSimpArgs false
attribute [local irreducible] AW AQ AO
end Go.Proofs.Ytdnmilmcdbgppaa.By

namespace Go.Proofs.Ytdnmilmcdbgppaa.A
open Go.RowKit L
set_option linter.unusedVariables false
set_option maxRecDepth 20000
set_option linter.unusedSimpArgs false
section
variable {Γ : Cx} {P : Program} {Q : Exit → Act → World → Prop} {E : Env} {H : List HE} {N : Nat} {o : Oper} {ops : Array Oper} {rest : List Oper}

/-- Values that hold no memory. -/
def Plain (v : AV) : Prop := (∃ c, v = .val c) ∨ ∃ xs, v = .agg xs ∧ ∀ x ∈ xs, ∃ c, x = .val c
theorem Plain.val {c : Value} : Plain (.val c) := .inl ⟨c, rfl⟩
theorem Plain.rel {v : AV} (h : Plain v) {R R' : Nat → Prop} {W W' : World} {u : Value} (hv : RelV R W v u) : RelV R' W' v u := by
  rcases h with ⟨c, rfl⟩ | ⟨xs, rfl, hx⟩
  · rw [hv.val_inv]; exact .val _
  · cases hv with
    | agg _ cs hs hr =>
      refine .agg _ cs hs fun j hj => ?_
      obtain ⟨c, hc⟩ := hx xs[j] (List.getElem_mem hj)
      have := hr j hj
      rw [hc] at this ⊢
      rw [this.val_inv]; exact .val _

inductive LendB (b : Nat) (ys : List AV) : List AV → List AV → Prop
  | nil : LendB b ys [] []
  | same {a : AV} {r r' : List AV} : LendB b ys r r' → LendB b ys (a :: r) (a :: r')
  | lend {j : Nat} {r r' : List AV} : LendB b ys r r' → LendB b ys (.val (.pointer (some ⟨b, j, none⟩)) :: r) (.rp ys j :: r')
theorem blk_rp {R : Nat → Prop} {W : World} {b T room j : Nat} {xs : List AV} (h : HE.ok R W (.blk b T room xs)) : RelV (fun c => R c ∨ c = b) W (.rp xs j) (.pointer (some ⟨b, j, none⟩)) := by
  have := RelV.rp (R := fun c => R c ∨ c = b) (W := W) xs j b 0 (fun q => (W.cell? ⟨b, 0 + q, none⟩).getD undef) (.inr rfl) (fun q hq => by
    obtain ⟨u, hu, _⟩ := blk_cell h (j := q) (v := xs[q]) (by simp [hq])
    rw [Nat.zero_add, hu]; rfl) (fun q hq => by
    obtain ⟨u, hu, hr⟩ := blk_cell h (j := q) (v := xs[q]) (by simp [hq])
    rw [Nat.zero_add, hu]
    exact hr.mono (fun _ h => .inl h) (fun _ _ => rfl))
  simpa using this
theorem LendB.rel {R : Nat → Prop} {W : World} {b T room : Nat} {xs : List AV} (h : HE.ok R W (.blk b T room xs)) {a a' : List AV} (hl : LendB b xs a a') : ∀ {us : List Value}, RelL R W a us → RelL (fun c => R c ∨ c = b) W a' us := by
  induction hl with
  | nil => intro us h; exact h.mono (fun _ h => .inl h) (fun _ _ => rfl)
  | same _ ih =>
    intro us h
    obtain ⟨u, r, rfl, h1, h2⟩ := h.uncons
    exact RelL.cons (h1.mono (fun _ h => .inl h) (fun _ _ => rfl)) (ih h2)
  | lend _ ih =>
    intro us h'
    obtain ⟨u, r, rfl, h1, h2⟩ := h'.uncons
    rw [h1.val_inv]
    exact RelL.cons (blk_rp h) (ih h2)
end

/-! Bytes told by a function of their place. -/
def fnB (n : Nat) (f : Nat → UInt8) : List UInt8 := (List.range n).map f
def arB (n : Nat) (f : Nat → UInt8) : List AV := bytesA (fnB n f)
end Go.Proofs.Ytdnmilmcdbgppaa.A

namespace Go.Proofs.Ytdnmilmcdbgppaa.A
open Go.RowKit L
section
variable {Γ : Cx} {P : Program} {E : Env} {H : List HE} {N : Nat} {o : Oper}
theorem RelV.plain {R R' : Nat → Prop} {W W' : World} {x : AV} {u : Value} (hx : ∃ c, x = .val c) (h : RelV R W x u) : RelV R' W' x u := by
  obtain ⟨c, rfl⟩ := hx
  rw [h.val_inv]; exact .val _
def PlainP (Post : AV → List HE → Prop) : Prop := ∀ r Hn, Post r Hn → (∀ (R R' : Nat → Prop) W u, RelV R W r u → RelV R' W r u) ∧ ∀ e ∈ Hn, ∀ (R R' : Nat → Prop) W, HE.ok R W e → HE.ok R' W e
end
end Go.Proofs.Ytdnmilmcdbgppaa.A

namespace Go.Proofs.Ytdnmilmcdbgppaa.A
open Go.RowKit L
section
variable {Γ : Cx} {P : Program} {E : Env} {H : List HE} {N : Nat} {o : Oper}
inductive LendX (H : List HE) : List AV → List AV → Prop
  | nil : LendX H [] []
  | same {a : AV} {r r' : List AV} : LendX H r r' → LendX H (a :: r) (a :: r')
  | row {v : Value} {T sz n : Nat} {rs r r' : List AV} (i : Nat) (hi : H[i]? = some (.row v T sz n rs)) : LendX H r r' → LendX H (.val v :: r) (.ro false n rs :: r')
  | agg {xs xs' r r' : List AV} : LendX H xs xs' → LendX H r r' → LendX H (.agg xs :: r) (.agg xs' :: r')
theorem LendX.rel {R : Nat → Prop} {W : World} (hok : ∀ e ∈ H, e.ok R W) {a a' : List AV} (h : LendX H a a') : ∀ {us : List Value}, RelL R W a us → RelL (fun b => R b ∨ ∃ e ∈ H, e.foot b) W a' us := by
  induction h with
  | nil => intro us h; exact h.mono (fun _ h => .inl h) (fun _ _ => rfl)
  | same _ ih =>
    intro us h
    obtain ⟨u, r, rfl, h1, h2⟩ := h.uncons
    exact RelL.cons (h1.mono (fun _ h => .inl h) (fun _ _ => rfl)) (ih h2)
  | row i hi _ ih =>
    intro us h
    obtain ⟨u, r, rfl, h1, h2⟩ := h.uncons
    have := h1.val_inv
    subst this
    have hm := List.mem_of_getElem? hi
    exact RelL.cons ((row_ro (hok _ hm)).mono (fun b hb => hb.elim .inl fun hf => .inr ⟨_, hm, hf⟩) (fun _ _ => rfl)) (ih h2)
  | agg _ _ ih1 ih2 =>
    intro us h
    obtain ⟨u, r, rfl, h1, h2⟩ := h.uncons
    obtain ⟨vs, rfl, hv⟩ := h1.agg_inv
    exact RelL.cons (ih1 hv).toAgg (ih2 h2)
theorem O.callXP {f : FuncId} {xs : List Operand} {ats : Array TypeId} {args args' : List AV} {fn : Func} {Post : AV → List HE → Prop} (ho : o.op = .call { callee := .value (.func f), args := xs.toArray, argTypes := ats }) (hfn : P.funcs[f]? = some fn) (hn : (fn.name == "runtime.NumGoroutine") = false) (hb : fn.body.isNone = false)
    (hx : evs E xs = some args) (h : Sp P f args' [] Post) (hp : PlainP Post) (hl : LendX H args args') : OpW P N o E H Post := fun R a W h0 h2 h3 ha => by
  have hlt : ∀ b, (R b ∨ ∃ e ∈ H, e.foot b) → b < W.heap.size := by
    rintro b (hb | ⟨e, he, hb⟩)
    · exact h0 b hb
    · exact HE.ok_lt (h2 _ he) hb
  unfold Oper.wp
  rw [run_callF ho hfn hn hb, List.map_toArray]
  have hc := h W _ (xs.map a.eval) hlt (fun e he => by cases he) .nil (hl.rel h2 (ha.evs hx))
  refine Calls.mono hc ?_
  rintro e W' ⟨u, r, H', R', rfl, hpo, hs, hv⟩
  have p := fn_post1 hs hv hlt
  obtain ⟨q1, q2⟩ := hp r H' hpo
  refine ⟨u, r, H', R, rfl, hpo, p.ext, fun _ h => h, fun _ h => .inl h, q1 _ _ _ _ hv, fun e he => ⟨q2 e he _ _ _ (p.ok e he).1, fun b hb => ?_⟩, p.disj⟩
  have := (p.ok e he).2 b hb
  exact ⟨this.1, fun hr => by have := h0 b hr; omega⟩
theorem plain_val (c : Value) : PlainP (Is (.val c)) := by
  rintro r Hn ⟨rfl, rfl⟩
  exact ⟨fun R R' W u h => h.plain ⟨_, rfl⟩, fun e he => by cases he⟩
/-- .. the yield a plain value. -/
theorem O.callX {f : FuncId} {xs : List Operand} {ats : Array TypeId} {args args' : List AV} {fn : Func} {c : Value} (ho : o.op = .call { callee := .value (.func f), args := xs.toArray, argTypes := ats }) (hfn : P.funcs[f]? = some fn) (hn : (fn.name == "runtime.NumGoroutine") = false) (hb : fn.body.isNone = false)
    (hx : evs E xs = some args) (h : Sp P f args' [] (Is (.val c))) (hl : LendX H args args') : OpW P N o E H (Is (.val c)) := O.callXP ho hfn hn hb hx h (plain_val c) hl
end
end Go.Proofs.Ytdnmilmcdbgppaa.A

namespace Go.Proofs.Ytdnmilmcdbgppaa.By
open Go.RowKit L A
set_option linter.unusedVariables false
set_option maxRecDepth 20000
set_option linter.unusedSimpArgs false
attribute [local irreducible] AW AQ AO
def uB (peer id : Int) (u : Us) : Bool := u.peer == peer && u.id == id
def wB (peer id : Int) (w : Wt) : Bool := w.peer == peer && w.m.id == id
def takenB (out : List Wt) (used : List Us) (peer id : Int) : Bool := used.any (uB peer id) || out.any (wB peer id)
theorem any_succ {α : Type} (p : α → Bool) (d : α) {l : List α} {k : Nat} (h : k < l.length) : (l.take (k + 1)).any p = ((l.take k).any p || p (l.getD k d)) := by
  rw [take_snoc d h, List.any_append]; simp
theorem nodup_sub : ∀ (s l : List Int), s.Nodup → (∀ x ∈ s, x ∈ l) → s.length ≤ l.length
  | [], l, _, _ => by simp
  | x :: s, l, h, hs => by
    have h1 := List.nodup_cons.1 h
    have hx := hs x (List.mem_cons_self ..)
    have := nodup_sub s (l.erase x) h1.2 fun y hy => by
      have hne : y ≠ x := fun e => h1.1 (e ▸ hy)
      exact (List.mem_erase_of_ne hne).2 (hs y (List.mem_cons_of_mem _ hy))
    rw [List.length_erase_of_mem hx] at this
    have : 0 < l.length := List.length_pos_of_mem hx
    simp only [List.length_cons]; omega
theorem taken_mem {out : List Wt} {used : List Us} {peer id : Int} (h : takenB out used peer id = true) : id ∈ used.map Us.id ++ out.map (fun w => w.m.id) := by
  unfold takenB at h
  rw [Bool.or_eq_true, List.any_eq_true, List.any_eq_true] at h
  rw [List.mem_append, List.mem_map, List.mem_map]
  rcases h with ⟨u, hu, h⟩ | ⟨u, hu, h⟩
  · unfold uB at h; simp only [Bool.and_eq_true, beq_iff_eq] at h; exact .inl ⟨u, hu, h.2⟩
  · unfold wB at h; simp only [Bool.and_eq_true, beq_iff_eq] at h; exact .inr ⟨u, hu, h.2⟩
def freeK (out : List Wt) (used : List Us) (peer next : Int) : Nat := ((List.range 64).find? fun k : Nat => !takenB out used peer ((next + (k : Int)) % 65536)).getD 0
def freeI (out : List Wt) (used : List Us) (peer next : Int) : Int := (next + (freeK out used peer next : Int)) % 65536
theorem freeK_spec {out : List Wt} {used : List Us} {peer next : Int} (h : used.length + out.length ≤ 48) :
    freeK out used peer next < 64 ∧ takenB out used peer ((next + (freeK out used peer next : Int)) % 65536) = false ∧ ∀ k : Nat, k < freeK out used peer next → takenB out used peer ((next + (k : Int)) % 65536) = true := by
  unfold freeK
  cases hf : (List.range 64).find? (fun k : Nat => !takenB out used peer ((next + (k : Int)) % 65536)) with
  | some K =>
    have h1 := List.find?_some hf
    have h2 := List.mem_range.1 (List.mem_of_find?_eq_some hf)
    refine ⟨h2, by simpa using h1, fun k hk => ?_⟩
    have h3 : ((List.range 64).find? fun k : Nat => !takenB out used peer ((next + (k : Int)) % 65536)) = some K := hf
    rw [List.find?_eq_some_iff_getElem] at h3
    obtain ⟨_, i, hi, hie, h4⟩ := h3
    rw [List.getElem_range] at hie
    subst hie
    have := h4 k hk
    rw [List.getElem_range] at this
    simpa using this
  | none =>
    exfalso
    have h1 := List.find?_eq_none.1 hf
    have h2 : ∀ k : Nat, k < 64 → takenB out used peer ((next + (k : Int)) % 65536) = true := fun k hk => by
      have := h1 k (List.mem_range.2 hk)
      simpa using this
    have h3 := nodup_sub ((List.range 64).map fun k : Nat => (next + (k : Int)) % 65536) (used.map Us.id ++ out.map (fun w => w.m.id)) ?_ ?_
    · simp only [List.length_map, List.length_range, List.length_append] at h3
      omega
    · rw [List.Nodup, List.pairwise_map]
      refine List.Pairwise.imp_of_mem ?_ List.nodup_range
      intro a b ha hb hab he
      rw [List.mem_range] at ha hb
      omega
    · intro x hx
      obtain ⟨k, hk, rfl⟩ := List.mem_map.1 hx
      exact taken_mem (h2 k (List.mem_range.1 hk))
set_option maxHeartbeats 4000000 in
theorem free_fn (next : Int) (out : List Wt) (used : List Us) (x : Value) (hx : x.oneCell' = true) (peer : Int) (hn : IdOk next) (hl : used.length + out.length ≤ 48) : Sp Try.prog 46 [.agg [.val (.int .i64 next), roW out, roU used, .val x], .val (.int .i64 peer)] [] (Is (.val (.int .i64 (freeI out used peer next)))) := by
  obtain ⟨hK1, hK2, hK3⟩ := freeK_spec (peer := peer) (next := next) hl
  obtain ⟨K, hK⟩ : ∃ K, K = freeK out used peer next := ⟨_, rfl⟩
  have hfI : freeI out used peer next = (next + (K : Int)) % 65536 := by rw [hK]; rfl
  rw [← hK] at hK1 hK2 hK3
  rw [hfI]
  refine Sp.enter Try.func46 rfl _ Try.ntmps46 rfl (fun w0 R0 => ?_)
  refine AW.seq ?_
  refine AW.region ?_
  refine AO.opB (O.box rfl rfl rfl rfl rfl) rfl rfl rfl ?_
  intro B1
  refine AO.op (O.assign rfl rfl) rfl rfl rfl ?_
  refine AO.nil ?_
  refine AQ.thenN ?_
  refine AW.seq ?_
  refine AW.region ?_
  refine AO.op (O.fieldAddr rfl rfl) rfl rfl rfl ?_
  refine AO.op (O.load rfl rfl (by repeat (exact List.Mem.head _)) (by rfl)) rfl rfl rfl ?_
  refine AO.op (O.assign rfl rfl) rfl rfl rfl ?_
  refine AO.nil ?_
  refine AQ.thenN ?_
  refine AW.block ?_
  refine AW.loopK [(1, _), (2, _)] (fun nn E H => ∃ (k : Nat) (id : Int), (k ≤ K) ∧ (id = (next + (k : Int)) % 65536) ∧ nn = K - k ∧ E = [(5, .val (.int .i64 id))] ∧ H = [.blk B1 26 4 [.val (.int .i64 next), roW out, roU used, .val x]]) _ (⟨0, next, by omega, by omega, rfl, rfl, rfl⟩) (by repeat (first | exact envNil | refine envCons rfl ?_)) (by repeat (first | exact envNil | refine envCons rfl ?_)) (by repeat (first | exact subPnil | refine subPcons 0 rfl ?_)) ?_
  rintro nn E H ⟨k, id, hk, hid, rfl, rfl, rfl⟩
  dsimp only [List.cons_append, List.nil_append]
  have hidb : 0 ≤ id ∧ id ≤ 65535 := by omega
  refine AW.seq ?_
  refine AW.block ?_
  refine AW.seq ?_
  refine AW.region ?_
  refine AO.op (O.assign rfl rfl) rfl rfl rfl ?_
  refine AO.nil ?_
  refine AQ.thenN ?_
  refine AW.seq ?_
  refine AW.seq ?_
  refine AW.region ?_
  refine AO.op (O.fieldAddr rfl rfl) rfl rfl rfl ?_
  refine AO.op (O.load rfl rfl (by repeat (exact List.Mem.head _)) (by rfl)) rfl rfl rfl ?_
  refine AO.op (O.lenR rfl rfl) rfl rfl rfl ?_
  refine AO.op (O.move rfl rfl) rfl rfl rfl ?_
  refine AO.nil ?_
  refine AQ.thenN ?_
  refine AW.block ?_
  refine AW.loopK [(1, _), (2, _), (5, _), (17, _), (18, _)] (fun nn E H => ∃ (j : Nat) (b : Bool), (j ≤ used.length) ∧ (b = (used.take j).any (uB peer id)) ∧ nn = used.length - j ∧ E = [(6, .val (.bool b)), (19, .val (.int .i64 (j : Int)))] ∧ H = [.blk B1 26 4 [.val (.int .i64 next), roW out, roU used, .val x]]) _ (⟨0, false, by omega, rfl, rfl, rfl, rfl⟩) (by repeat (first | exact envNil | refine envCons rfl ?_)) (by repeat (first | exact envNil | refine envCons rfl ?_)) (by repeat (first | exact subPnil | refine subPcons 0 rfl ?_)) ?_
  rintro nn E H ⟨j, b, hj, hb, rfl, rfl, rfl⟩
  dsimp only [List.cons_append, List.nil_append]
  refine AW.seq ?_
  refine AW.region ?_
  refine AO.op (O.lss rfl rfl rfl (by rfl)) rfl rfl rfl ?_
  refine AO.nil ?_
  refine AQ.thenN ?_
  refine AW.seq ?_
  refine AW.split rfl (fun h1 => ?_) (fun h1 => ?_) <;> (try simp only [decide_eq_true_eq, decide_eq_false_iff_not, beq_iff_eq, beq_eq_false_iff_ne, bne_iff_ne, bne_eq_false_iff_eq, Bool.not_eq_true', Bool.not_eq_false', Bool.not_eq_true, Bool.not_eq_false, ne_eq, Int.not_lt, Int.not_le, Bool.and_eq_true, Bool.or_eq_true, Bool.or_eq_false_iff, Bool.and_eq_false_imp, strOf_toList, Decidable.not_not] at h1)
  · skip
    have hj' : j < used.length := by omega
    refine AW.skip ?_
    refine AQ.thenN ?_
    refine AW.seq ?_
    refine AW.block ?_
    refine AW.seq ?_
    refine AW.region ?_
    refine AO.op (O.idxR rfl rfl rfl ⟨(by omega), (by omega)⟩) rfl rfl rfl ?_
    refine AO.op (O.loadRK rfl rfl (by exact getU (by omega) (by omega)) (by rfl)) rfl rfl rfl ?_
    refine AO.opB (O.alloc rfl (by (dsimp only [zerosA, List.replicate, List.append, List.flatten, AV.cells, Value.cells, List.toList_toArray, List.map]; done)) (by rfl)) rfl rfl rfl ?_
    intro B2
    (refine AO.store (i := 0) rfl rfl rfl rfl rfl rfl (by rfl) (by rfl) (by rfl) (by (dsimp only [List.set, List.cons_append, List.nil_append, List.take, List.drop]; done)) (by (dsimp only [List.set, List.cons_append, List.nil_append, List.take, List.drop]; done)) ?_)
    refine AO.nil ?_
    refine AQ.thenN ?_
    refine AW.region ?_
    refine AO.op (O.move rfl rfl) rfl rfl rfl ?_
    refine AO.op (O.move rfl rfl) rfl rfl rfl ?_
    refine AO.opG rfl rfl rfl (fun hp => O.fieldAddr rfl rfl) ?_
    refine AO.opG rfl rfl rfl (fun hp => OpW.force 25 rfl (by exact hp) (O.load rfl rfl (by repeat (exact List.Mem.head _)) (by rfl))) ?_
    refine AO.opG rfl rfl rfl (fun hp => O.move rfl rfl) ?_
    refine AO.opG rfl rfl rfl (fun hp => OpW.force 26 rfl (by exact hp) (OpW.force 27 rfl (by exact hp) (O.eql rfl rfl rfl (by rfl)))) ?_
    refine AO.opG rfl rfl rfl (fun hp => OpW.force 28 rfl (by exact hp) (O.move rfl rfl)) ?_
    refine AO.opG rfl rfl rfl (fun hp => O.fieldAddr rfl rfl) ?_
    refine AO.opG rfl rfl rfl (fun hp => OpW.force 30 rfl (by exact hp) (O.load rfl rfl (by repeat (exact List.Mem.head _)) (by rfl))) ?_
    refine AO.opG rfl rfl rfl (fun hp => O.move rfl rfl) ?_
    refine AO.opG rfl rfl rfl (fun hp => OpW.force 31 rfl (by exact hp) (OpW.force 32 rfl (by exact hp) (O.eql rfl rfl rfl (by rfl)))) ?_
    refine AO.opG rfl rfl rfl (fun hp => OpW.force 29 rfl (by exact hp) (O.pickAnd rfl rfl rfl rfl (fun h => by simp_all))) ?_
    refine AO.op (O.pickOr rfl rfl rfl rfl (fun h => by exact congrArg (fun b => !b) h)) rfl rfl rfl ?_
    refine AO.op (O.assign rfl rfl) rfl rfl rfl ?_
    refine AO.nil ?_
    refine AQ.blockN ?_
    refine AQ.thenN ?_
    refine AW.region ?_
    refine AO.op (O.add rfl rfl rfl (by exact wI64 (by omega))) rfl rfl rfl ?_
    refine AO.op (O.move rfl rfl) rfl rfl rfl ?_
    refine AO.nil ?_
    refine AQ.loopKN _ _ _ (by omega) (⟨j + 1, _, by omega, (by rw [any_succ _ Us.none hj', ← hb]), rfl, rfl, rfl⟩) (by repeat (first | exact envNil | refine envCons rfl ?_)) (by repeat (first | exact envNil | refine envCons rfl ?_)) (by repeat (first | exact subPnil | refine subPcons 1 rfl ?_))
  · skip
    obtain rfl : j = used.length := by omega
    rw [List.take_length] at hb
    refine AW.exit ?_
    refine AQ.thenX ?_
    refine AQ.loopX ?_
    refine AQ.blockX rfl ?_
    refine AQ.thenN ?_
    refine AW.seq ?_
    refine AW.seq ?_
    refine AW.region ?_
    refine AO.op (O.fieldAddr rfl rfl) rfl rfl rfl ?_
    refine AO.op (O.load rfl rfl (by repeat (exact List.Mem.head _)) (by rfl)) rfl rfl rfl ?_
    refine AO.op (O.lenR rfl rfl) rfl rfl rfl ?_
    refine AO.op (O.move rfl rfl) rfl rfl rfl ?_
    refine AO.nil ?_
    refine AQ.thenN ?_
    refine AW.block ?_
    refine AW.loopK [(1, _), (2, _), (5, _), (38, _), (39, _)] (fun nn E H => ∃ (j : Nat) (b2 : Bool), (j ≤ out.length) ∧ (b2 = (b || (out.take j).any (wB peer id))) ∧ nn = out.length - j ∧ E = [(6, .val (.bool b2)), (40, .val (.int .i64 (j : Int)))] ∧ H = [.blk B1 26 4 [.val (.int .i64 next), roW out, roU used, .val x]]) _ (⟨0, b, by omega, by simp, rfl, rfl, rfl⟩) (by repeat (first | exact envNil | refine envCons rfl ?_)) (by repeat (first | exact envNil | refine envCons rfl ?_)) (by repeat (first | exact subPnil | refine subPcons 0 rfl ?_)) ?_
    rintro nn E H ⟨j, b2, hj, hb2, rfl, rfl, rfl⟩
    dsimp only [List.cons_append, List.nil_append]
    refine AW.seq ?_
    refine AW.region ?_
    refine AO.op (O.lss rfl rfl rfl (by rfl)) rfl rfl rfl ?_
    refine AO.nil ?_
    refine AQ.thenN ?_
    refine AW.seq ?_
    refine AW.split rfl (fun h2 => ?_) (fun h2 => ?_) <;> (try simp only [decide_eq_true_eq, decide_eq_false_iff_not, beq_iff_eq, beq_eq_false_iff_ne, bne_iff_ne, bne_eq_false_iff_eq, Bool.not_eq_true', Bool.not_eq_false', Bool.not_eq_true, Bool.not_eq_false, ne_eq, Int.not_lt, Int.not_le, Bool.and_eq_true, Bool.or_eq_true, Bool.or_eq_false_iff, Bool.and_eq_false_imp, strOf_toList, Decidable.not_not] at h2)
    · skip
      have hj' : j < out.length := by omega
      refine AW.skip ?_
      refine AQ.thenN ?_
      refine AW.seq ?_
      refine AW.block ?_
      refine AW.seq ?_
      refine AW.region ?_
      refine AO.op (O.idxR rfl rfl rfl ⟨(by omega), (by omega)⟩) rfl rfl rfl ?_
      refine AO.op (O.loadRK rfl rfl (by exact getW (by omega) (by omega)) (by rfl)) rfl rfl rfl ?_
      refine AO.opB (O.alloc rfl (by (dsimp only [zerosA, List.replicate, List.append, List.flatten, AV.cells, Value.cells, List.toList_toArray, List.map]; done)) (by rfl)) rfl rfl rfl ?_
      intro B3
      (refine AO.store (i := 0) rfl rfl rfl rfl rfl rfl (by rfl) (by rfl) (by rfl) (by (dsimp only [List.set, List.cons_append, List.nil_append, List.take, List.drop]; done)) (by (dsimp only [List.set, List.cons_append, List.nil_append, List.take, List.drop]; done)) ?_)
      refine AO.nil ?_
      refine AQ.thenN ?_
      refine AW.region ?_
      refine AO.op (O.move rfl rfl) rfl rfl rfl ?_
      refine AO.op (O.move rfl rfl) rfl rfl rfl ?_
      refine AO.opG rfl rfl rfl (fun hp => O.fieldAddr rfl rfl) ?_
      refine AO.opG rfl rfl rfl (fun hp => OpW.force 46 rfl (by exact hp) (O.load rfl rfl (by repeat (exact List.Mem.head _)) (by rfl))) ?_
      refine AO.opG rfl rfl rfl (fun hp => O.move rfl rfl) ?_
      refine AO.opG rfl rfl rfl (fun hp => OpW.force 47 rfl (by exact hp) (OpW.force 48 rfl (by exact hp) (O.eql rfl rfl rfl (by rfl)))) ?_
      refine AO.opG rfl rfl rfl (fun hp => OpW.force 49 rfl (by exact hp) (O.move rfl rfl)) ?_
      refine AO.opG rfl rfl rfl (fun hp => O.fieldAddr rfl rfl) ?_
      refine AO.opG rfl rfl rfl (fun hp => OpW.force 51 rfl (by exact hp) (O.fieldAddr rfl rfl)) ?_
      refine AO.opG rfl rfl rfl (fun hp => OpW.force 52 rfl (by exact hp) (O.load rfl rfl (by repeat (exact List.Mem.head _)) (by rfl))) ?_
      refine AO.opG rfl rfl rfl (fun hp => O.move rfl rfl) ?_
      refine AO.opG rfl rfl rfl (fun hp => OpW.force 53 rfl (by exact hp) (OpW.force 54 rfl (by exact hp) (O.eql rfl rfl rfl (by rfl)))) ?_
      refine AO.opG rfl rfl rfl (fun hp => OpW.force 50 rfl (by exact hp) (O.pickAnd rfl rfl rfl rfl (fun h => by simp_all))) ?_
      refine AO.op (O.pickOr rfl rfl rfl rfl (fun h => by exact congrArg (fun b => !b) h)) rfl rfl rfl ?_
      refine AO.op (O.assign rfl rfl) rfl rfl rfl ?_
      refine AO.nil ?_
      refine AQ.blockN ?_
      refine AQ.thenN ?_
      refine AW.region ?_
      refine AO.op (O.add rfl rfl rfl (by exact wI64 (by omega))) rfl rfl rfl ?_
      refine AO.op (O.move rfl rfl) rfl rfl rfl ?_
      refine AO.nil ?_
      refine AQ.loopKN _ _ _ (by omega) (⟨j + 1, _, by omega, (by rw [any_succ _ Wt.none hj', ← Bool.or_assoc, ← hb2]), rfl, rfl, rfl⟩) (by repeat (first | exact envNil | refine envCons rfl ?_)) (by repeat (first | exact envNil | refine envCons rfl ?_)) (by repeat (first | exact subPnil | refine subPcons 1 rfl ?_))
    · skip
      obtain rfl : j = out.length := by omega
      rw [List.take_length] at hb2
      have hb3 : b2 = takenB out used peer id := by rw [hb2, hb]; rfl
      refine AW.exit ?_
      refine AQ.thenX ?_
      refine AQ.loopX ?_
      refine AQ.blockX rfl ?_
      refine AQ.thenN ?_
      refine AW.seq ?_
      refine AW.region ?_
      refine AO.op (O.move rfl rfl) rfl rfl rfl ?_
      refine AO.op (O.not rfl rfl (by rfl)) rfl rfl rfl ?_
      refine AO.nil ?_
      refine AQ.thenN ?_
      refine AW.split rfl (fun h3 => ?_) (fun h3 => ?_) <;> (try simp only [decide_eq_true_eq, decide_eq_false_iff_not, beq_iff_eq, beq_eq_false_iff_ne, bne_iff_ne, bne_eq_false_iff_eq, Bool.not_eq_true', Bool.not_eq_false', Bool.not_eq_true, Bool.not_eq_false, ne_eq, Int.not_lt, Int.not_le, Bool.and_eq_true, Bool.or_eq_true, Bool.or_eq_false_iff, Bool.and_eq_false_imp, strOf_toList, Decidable.not_not] at h3)
      · skip
        have : k = K := by
          rcases Nat.lt_or_ge k K with h | h
          · rw [hb3, hid, hK3 k h] at h3; simp at h3
          · omega
        refine AW.seq ?_
        refine AW.region ?_
        refine AO.op (O.move rfl rfl) rfl rfl rfl ?_
        refine AO.op (O.assign rfl rfl) rfl rfl rfl ?_
        refine AO.nil ?_
        refine AQ.thenN ?_
        refine AW.ret ?_
        refine AQ.blockR ?_
        refine AQ.thenR ?_
        refine AQ.loopR ?_
        refine AQ.blockR ?_
        refine AQ.ret1 rfl rfl ⟨_, List.nil_sublist _, .nil⟩ (⟨by rw [hid, this], rfl⟩)
      · skip
        have hlt : k < K := by
          rcases Nat.lt_or_ge k K with h | h
          · exact h
          · obtain rfl : k = K := by omega
            rw [hb3, hid, hK2] at h3; simp at h3
        refine AW.skip ?_
        refine AQ.blockN ?_
        refine AQ.thenN ?_
        refine AW.region ?_
        refine AO.op (O.move rfl rfl) rfl rfl rfl ?_
        refine AO.op (O.add rfl rfl rfl (by exact wI64 (by omega))) rfl rfl rfl ?_
        refine AO.op (O.and_ rfl rfl rfl (andI64 16 (by decide) (by decide) (m := 65536) (by decide) (by omega))) rfl rfl rfl ?_
        refine AO.op (O.assign rfl rfl) rfl rfl rfl ?_
        refine AO.nil ?_
        refine AQ.loopKN _ _ _ (by omega) (⟨k + 1, (id + 1) % 65536, by omega, (by omega), rfl, rfl, rfl⟩) (by repeat (first | exact envNil | refine envCons rfl ?_)) (by repeat (first | exact envNil | refine envCons rfl ?_)) (by repeat (first | exact subPnil | refine subPcons 0 rfl ?_))
end Go.Proofs.Ytdnmilmcdbgppaa.By

namespace Go.Proofs.Ytdnmilmcdbgppaa.By
open Go.RowKit L A
set_option linter.unusedVariables false
set_option maxRecDepth 20000
set_option linter.unusedSimpArgs false
attribute [local irreducible] AW AQ AO
def CmpW (l : List Wt) : Prop := l.length ≤ 1000000 ∧ ∀ w ∈ l, w.m.opts.length ≤ 140737488355328
structure CmpE (e : Ep) : Prop where
  o : CmpW e.out
  u : e.used.length ≤ 1000000
  i : e.inn.length ≤ 1000000
  m : ∀ h ∈ e.inn, h.m.opts.length ≤ 140737488355328
end Go.Proofs.Ytdnmilmcdbgppaa.By

namespace Go.Proofs.Ytdnmilmcdbgppaa.By
open Go.RowKit L A
set_option linter.unusedVariables false
set_option maxRecDepth 20000
set_option linter.unusedSimpArgs false
attribute [local irreducible] AW AQ AO
theorem AscO_val : ∀ {l : Int} {os : List Opt}, AscO l os → ∀ o ∈ os, (o.val.length : Int) ≤ 1034
  | l, [], _, o, ho => by simp at ho
  | l, p :: os, h, o, ho => by
    obtain ⟨k, hk, rfl⟩ := List.getElem_of_mem ho
    have := (AscO_at h hk).2.2
    rw [show oat (p :: os) k = (p :: os)[k] by simp only [oat, List.getD_eq_getElem?_getD, List.getElem?_eq_getElem hk, Option.getD_some]] at this
    exact this
theorem ValM.sm {m : Msg} (h : ValM m) : SmM m := by
  obtain ⟨⟨_, ⟨_, _, h1, h2⟩, h3, _, _, h4⟩, _⟩ := h
  exact ⟨by omega, by omega, by omega, fun o ho => by have := AscO_val h3 o ho; omega⟩
theorem ValM.withId {m : Msg} (h : ValM m) {id : Int} (hi : 0 ≤ id ∧ id ≤ 65535) : ValM { m with id := id } := by
  obtain ⟨⟨h1, ⟨_, _, h2⟩, h3⟩, h4⟩ := h
  refine ⟨⟨h1, ⟨hi.1, hi.2, h2⟩, h3⟩, ?_⟩
  have e : (raw { m with id := id }).length = (raw m).length := by simp only [raw, headM, List.length_append, List.length_cons, List.length_nil]
  rw [e]; exact h4
theorem none_sm : SmM Msg.none := ⟨by simp [Msg.none], by simp [Msg.none], by simp [Msg.none], by simp [Msg.none]⟩
theorem OkH.sm {h : Hd} (hh : OkH h) : SmM h.m := by
  obtain ⟨_, _, _, h1, h2⟩ := hh
  cases ha : h.ans with
  | true => exact (h1 ha).sm
  | false => rw [h2 ha]; exact none_sm
theorem ValE.sm {e : Ep} (h : ValE e) : SmE e := by
  obtain ⟨_, h2, h3, h4, h5, _, _, h8, _⟩ := h
  exact ⟨by omega, by omega, by omega, fun w hw => (h5 w hw).2.2.1.sm, fun x hx => OkH.sm (h8 x hx)⟩
theorem cleanE_out (e : Ep) (now : Int) : (cleanE e now).out = e.out := rfl
theorem clean_used (e : Ep) (now : Int) : (cleanE e now).used.length ≤ e.used.length := List.length_filter_le _ _
theorem clean_inn (e : Ep) (now : Int) : (cleanE e now).inn.length ≤ e.inn.length := List.length_filter_le _ _
abbrev SendOk (e : Ep) (p : Int) (m : Msg) (now : Int) : Prop := ValE e ∧ TimeOk now ∧ PeerOk p ∧ ValM m ∧ (m.ty = 0 ∨ m.ty = 1)
abbrev SendFull (c : Ep) (m : Msg) : Prop := 32 ≤ c.used.length ∨ (m.ty = 0 ∧ 16 ≤ c.out.length)
def sentE (c : Ep) (p : Int) (m : Msg) (now id : Int) : Ep := ⟨(id + 1) % 65536, if m.ty = 0 then c.out ++ [⟨p, { m with id := id }, now + 2, 1⟩] else c.out, c.used ++ [⟨p, id, now + 128⟩], c.inn⟩
def sendR (e : Ep) (p : Int) (m : Msg) (now : Int) : Ep × Msg × Int :=
  if SendOk e p m now then
    if SendFull (cleanE e now) m then (Ep.none, Msg.none, 16)
    else (sentE (cleanE e now) p m now (freeI (cleanE e now).out (cleanE e now).used p e.next), { m with id := freeI (cleanE e now).out (cleanE e now).used p e.next }, 0)
  else (Ep.none, Msg.none, 1)
abbrev resS (r : Ep × Msg × Int) : AV := .tup [aggE r.1, aggM r.2.1, .val (.int .i64 r.2.2)]
theorem ret3S {q : AV} {r : Ep × Msg × Int} {a : Ep} {b : Msg} {c : Int} (h : r = (a, b, c)) (hq : q = .tup [aggE a, aggM b, .val (.int .i64 c)]) : Is (resS r) q [] := by subst h; exact ⟨hq, rfl⟩
theorem aggE_of {e : Ep} {n1 n2 n3 : Nat} {x1 x2 x3 : List AV} (h1 : n1 = e.out.length) (g1 : x1 = wtsA e.out) (h2 : n2 = e.used.length) (g2 : x2 = ussA e.used) (h3 : n3 = e.inn.length) (g3 : x3 = hdsA e.inn) : AV.agg [.val (.int .i64 e.next), .ro false n1 x1, .ro false n2 x2, .ro false n3 x3] = aggE e := by subst h1 g1 h2 g2 h3 g3; rfl
theorem sentE_con {c : Ep} {p : Int} {m : Msg} {now id : Int} (h : m.ty = 0) : sentE c p m now id = ⟨(id + 1) % 65536, c.out ++ [⟨p, { m with id := id }, now + 2, 1⟩], c.used ++ [⟨p, id, now + 128⟩], c.inn⟩ := by rw [sentE, if_pos h]
theorem sentE_non {c : Ep} {p : Int} {m : Msg} {now id : Int} (h : ¬m.ty = 0) : sentE c p m now id = ⟨(id + 1) % 65536, c.out, c.used ++ [⟨p, id, now + 128⟩], c.inn⟩ := by rw [sentE, if_neg h]
theorem snoc_len {α : Type} (l : List α) (a : α) : l.length + 1 = (l ++ [a]).length := by rw [List.length_append]; rfl
theorem aggE_tup {x y : AV} (h : x = y) (r : List AV) : AV.tup (x :: r) = AV.tup (y :: r) := by rw [h]
set_option maxHeartbeats 4000000 in
theorem send_fn (e : Ep) (p : Int) (m : Msg) (now : Int) (hb : BdE e) : Sp Try.prog 18 [aggE e, .val (.int .i64 p), aggM m, .val (.int .i64 now)] [] (Is (resS (sendR e p m now))) := by
  refine Sp.enter Try.func18 rfl _ Try.ntmps18 rfl (fun w0 R0 => ?_)
  refine AW.seq ?_
  refine AW.region ?_
  refine AO.opB (O.box rfl rfl rfl rfl rfl) rfl rfl rfl ?_
  intro B1
  refine AO.opB (O.box rfl rfl rfl rfl rfl) rfl rfl rfl ?_
  intro B2
  refine AO.opB (O.alloc rfl (by (dsimp only [zerosA, List.replicate, List.append, List.flatten, AV.cells, Value.cells, List.toList_toArray, List.map]; done)) (by rfl)) rfl rfl rfl ?_
  intro B3
  refine AO.opB (O.alloc rfl (by (dsimp only [zerosA, List.replicate, List.append, List.flatten, AV.cells, Value.cells, List.toList_toArray, List.map]; done)) (by rfl)) rfl rfl rfl ?_
  intro B4
  refine AO.op (O.assign rfl rfl) rfl rfl rfl ?_
  refine AO.nil ?_
  refine AQ.thenN ?_
  refine AW.seq ?_
  refine AW.seq ?_
  refine AW.region ?_
  (refine AO.op (O.loadK rfl rfl (by repeat (first | exact List.Mem.head _ | refine List.Mem.tail _ ?_)) (by (dsimp only [List.set, List.append, List.cons_append, List.nil_append, AV.cells, splice, List.take, List.drop, Nat.reduceAdd]; done)) (by rfl)) rfl rfl rfl ?_)
  refine AO.op (O.call rfl Try.func15 rfl rfl rfl (evalid_fn e hb)) rfl rfl rfl ?_
  refine AO.op (O.not rfl rfl (by rfl)) rfl rfl rfl ?_
  refine AO.op (O.move rfl rfl) rfl rfl rfl ?_
  refine AO.opG rfl rfl rfl (fun hp => O.move rfl rfl) ?_
  refine AO.opG rfl rfl rfl (fun hp => OpW.force 15 rfl (by exact hp) (O.call rfl Try.func43 rfl rfl rfl (timeOK_fn _))) ?_
  refine AO.opG rfl rfl rfl (fun hp => OpW.force 16 rfl (by exact hp) (O.not rfl rfl (by rfl))) ?_
  refine AO.op (O.pickOr rfl rfl rfl rfl (fun h => by exact congrArg (fun b => !b) h)) rfl rfl rfl ?_
  refine AO.op (O.move rfl rfl) rfl rfl rfl ?_
  refine AO.opG rfl rfl rfl (fun hp => O.move rfl rfl) ?_
  refine AO.opG rfl rfl rfl (fun hp => OpW.force 20 rfl (by exact hp) (O.call rfl Try.func37 rfl rfl rfl (peerOK_fn _))) ?_
  refine AO.opG rfl rfl rfl (fun hp => OpW.force 21 rfl (by exact hp) (O.not rfl rfl (by rfl))) ?_
  refine AO.op (O.pickOr rfl rfl rfl rfl (fun h => by exact congrArg (fun b => !b) h)) rfl rfl rfl ?_
  refine AO.op (O.move rfl rfl) rfl rfl rfl ?_
  (refine AO.opG rfl rfl rfl (fun hp => O.loadK rfl rfl (by repeat (first | exact List.Mem.head _ | refine List.Mem.tail _ ?_)) (by (dsimp only [List.set, List.append, List.cons_append, List.nil_append, AV.cells, splice, List.take, List.drop, Nat.reduceAdd]; done)) (by rfl)) ?_)
  refine AO.opG rfl rfl rfl (fun hp => OpW.force 25 rfl (by exact hp) (O.call rfl Try.func44 rfl rfl rfl (valid_fn m))) ?_
  refine AO.opG rfl rfl rfl (fun hp => OpW.force 26 rfl (by exact hp) (O.not rfl rfl (by rfl))) ?_
  refine AO.op (O.pickOr rfl rfl rfl rfl (fun h => by exact congrArg (fun b => !b) h)) rfl rfl rfl ?_
  refine AO.op (O.move rfl rfl) rfl rfl rfl ?_
  refine AO.opG rfl rfl rfl (fun hp => O.fieldAddr rfl rfl) ?_
  refine AO.opG rfl rfl rfl (fun hp => OpW.force 30 rfl (by exact hp) (O.load rfl rfl (by repeat (first | exact List.Mem.head _ | refine List.Mem.tail _ ?_)) (by rfl))) ?_
  refine AO.opG rfl rfl rfl (fun hp => OpW.force 31 rfl (by exact hp) (O.neq rfl rfl rfl (by rfl))) ?_
  refine AO.opG rfl rfl rfl (fun hp => OpW.force 32 rfl (by exact hp) (O.move rfl rfl)) ?_
  refine AO.opG rfl rfl rfl (fun hp => O.fieldAddr rfl rfl) ?_
  refine AO.opG rfl rfl rfl (fun hp => OpW.force 34 rfl (by exact hp) (O.load rfl rfl (by repeat (first | exact List.Mem.head _ | refine List.Mem.tail _ ?_)) (by rfl))) ?_
  refine AO.opG rfl rfl rfl (fun hp => OpW.force 35 rfl (by exact hp) (O.neq rfl rfl rfl (by rfl))) ?_
  refine AO.opG rfl rfl rfl (fun hp => OpW.force 33 rfl (by exact hp) (O.pickAnd rfl rfl rfl rfl (fun h => by simp_all))) ?_
  refine AO.op (O.pickOr rfl rfl rfl rfl (fun h => by exact congrArg (fun b => !b) h)) rfl rfl rfl ?_
  refine AO.nil ?_
  refine AQ.thenN ?_
  refine AW.split rfl (fun h => ?_) (fun h => ?_) <;> (try simp only [decide_eq_true_eq, decide_eq_false_iff_not, beq_iff_eq, beq_eq_false_iff_ne, bne_iff_ne, bne_eq_false_iff_eq, Bool.not_eq_true', Bool.not_eq_false', Bool.not_eq_true, Bool.not_eq_false, ne_eq, Int.not_lt, Int.not_le, Bool.and_eq_true, Bool.or_eq_true, Bool.or_eq_false_iff, Bool.and_eq_false_imp, strOf_toList, Decidable.not_not] at h)
  · skip
    have e1 : sendR e p m now = (Ep.none, Msg.none, 1) := if_neg (by rintro ⟨h1, h2, h3, h4, h5⟩; rcases h with (((h | h) | h) | h) | h; exact h h1; exact h h2; exact h h3; exact h h4; omega)
    refine AW.seq ?_
    refine AW.region ?_
    refine AO.op (O.build rfl rfl rfl (by rfl)) rfl rfl rfl ?_
    refine AO.op (O.build rfl rfl rfl (by rfl)) rfl rfl rfl ?_
    (refine AO.store (i := 1) rfl rfl rfl rfl rfl rfl (by rfl) (by rfl) (by rfl) (by (dsimp only [List.set, List.append, List.cons_append, List.nil_append, AV.cells, splice, List.take, List.drop, Nat.reduceAdd]; done)) (by (dsimp only [List.set, List.append, List.cons_append, List.nil_append, AV.cells, splice, List.take, List.drop, Nat.reduceAdd]; done)) ?_)
    (refine AO.store (i := 0) rfl rfl rfl rfl rfl rfl (by rfl) (by rfl) (by rfl) (by (dsimp only [List.set, List.append, List.cons_append, List.nil_append, AV.cells, splice, List.take, List.drop, Nat.reduceAdd]; done)) (by (dsimp only [List.set, List.append, List.cons_append, List.nil_append, AV.cells, splice, List.take, List.drop, Nat.reduceAdd]; done)) ?_)
    refine AO.op (O.assign rfl rfl) rfl rfl rfl ?_
    refine AO.nil ?_
    refine AQ.thenN ?_
    refine AW.ret ?_
    refine AQ.thenR ?_
    refine FnQ.coe (AQ.ret3G rfl (by exact ResAt.cell rfl (by repeat (first | exact List.Mem.head _ | refine List.Mem.tail _ ?_)) (by (dsimp only [List.set, List.append, List.cons_append, List.nil_append, AV.cells, splice, List.take, List.drop, Nat.reduceAdd]; done)) (by rfl)) (by exact ResAt.cell rfl (by repeat (exact List.Mem.head _)) (by (dsimp only [List.set, List.append, List.cons_append, List.nil_append, AV.cells, splice, List.take, List.drop, Nat.reduceAdd]; done)) (by rfl)) (by exact ResAt.tmp rfl) ⟨_, List.nil_sublist _, .nil⟩ ⟨rfl, rfl⟩) (Coe.tup (by (repeat (first | exact CoeL.nil | refine CoeL.cons Coe.rfl ?_ | refine CoeL.cons Coe.nil ?_ | refine CoeL.cons (Coe.agg ?_) ?_)); done)) (ret3S e1 rfl)
  · skip
    have hok : SendOk e p m now := ⟨h.1.1.1.1, h.1.1.1.2, h.1.1.2, h.1.2, by omega⟩
    have hok2 := hok
    obtain ⟨hv, ht, hp, hvm, hty⟩ := hok2
    have hsm := ValE.sm hv
    have hmm := ValM.sm hvm
    have hcu := clean_used e now
    have hv2 := hv.2.2.1
    have hv1 := hv.2.1
    refine AW.skip ?_
    refine AQ.thenN ?_
    refine AW.seq ?_
    refine AW.region ?_
    (refine AO.op (O.loadK rfl rfl (by repeat (first | exact List.Mem.head _ | refine List.Mem.tail _ ?_)) (by (dsimp only [List.set, List.append, List.cons_append, List.nil_append, AV.cells, splice, List.take, List.drop, Nat.reduceAdd]; done)) (by rfl)) rfl rfl rfl ?_)
    refine AO.op (O.move rfl rfl) rfl rfl rfl ?_
    refine AO.opN (O.call rfl Try.func45 rfl rfl rfl (cleaned_fn e now hsm)) rfl rfl rfl ?_
    rintro _ _ ⟨V15, V25, V35, hV15, hV25, hV35, rfl, rfl⟩
    simp only [List.cons_append, List.nil_append]
    (refine AO.store (i := 6) rfl rfl rfl rfl rfl rfl (by (simp [AV.cells, AV.one, roB, roI, roO, show ∀ k z, (Value.int k z).oneCell' = true from fun _ _ => rfl, show ∀ k, (Value.bool k).oneCell' = true from fun _ => rfl, *]; done)) (by rfl) (by rfl) (by (dsimp only [List.set, List.append, List.cons_append, List.nil_append, AV.cells, splice, List.take, List.drop, Nat.reduceAdd]; done)) (by (dsimp only [List.set, List.append, List.cons_append, List.nil_append, AV.cells, splice, List.take, List.drop, Nat.reduceAdd]; done)) ?_)
    refine AO.nil ?_
    refine AQ.thenN ?_
    refine AW.seq ?_
    refine AW.seq ?_
    refine AW.region ?_
    refine AO.op (O.fieldAddr rfl rfl) rfl rfl rfl ?_
    refine AO.op (O.load rfl rfl (by repeat (first | exact List.Mem.head _ | refine List.Mem.tail _ ?_)) (by rfl)) rfl rfl rfl ?_
    refine AO.op (O.lenRow rfl rfl (by repeat (first | exact List.Mem.head _ | refine List.Mem.tail _ ?_))) rfl rfl rfl ?_
    refine AO.op (O.geq rfl rfl rfl (by rfl)) rfl rfl rfl ?_
    refine AO.op (O.move rfl rfl) rfl rfl rfl ?_
    refine AO.opG rfl rfl rfl (fun hp => O.fieldAddr rfl rfl) ?_
    refine AO.opG rfl rfl rfl (fun hp => OpW.force 49 rfl (by exact hp) (O.load rfl rfl (by repeat (first | exact List.Mem.head _ | refine List.Mem.tail _ ?_)) (by rfl))) ?_
    refine AO.opG rfl rfl rfl (fun hp => OpW.force 50 rfl (by exact hp) (O.eql rfl rfl rfl (by rfl))) ?_
    refine AO.opG rfl rfl rfl (fun hp => OpW.force 51 rfl (by exact hp) (O.move rfl rfl)) ?_
    refine AO.opG rfl rfl rfl (fun hp => O.fieldAddr rfl rfl) ?_
    refine AO.opG rfl rfl rfl (fun hp => OpW.force 53 rfl (by exact hp) (O.load rfl rfl (by repeat (first | exact List.Mem.head _ | refine List.Mem.tail _ ?_)) (by rfl))) ?_
    refine AO.opG rfl rfl rfl (fun hp => OpW.force 54 rfl (by exact hp) (O.lenRow rfl rfl (by repeat (first | exact List.Mem.head _ | refine List.Mem.tail _ ?_)))) ?_
    refine AO.opG rfl rfl rfl (fun hp => OpW.force 55 rfl (by exact hp) (O.geq rfl rfl rfl (by rfl))) ?_
    refine AO.opG rfl rfl rfl (fun hp => OpW.force 52 rfl (by exact hp) (O.pickAnd rfl rfl rfl rfl (fun h => by simp_all))) ?_
    refine AO.op (O.pickOr rfl rfl rfl rfl (fun h => by exact congrArg (fun b => !b) h)) rfl rfl rfl ?_
    refine AO.nil ?_
    refine AQ.thenN ?_
    refine AW.split rfl (fun h2 => ?_) (fun h2 => ?_) <;> (try simp only [decide_eq_true_eq, decide_eq_false_iff_not, beq_iff_eq, beq_eq_false_iff_ne, bne_iff_ne, bne_eq_false_iff_eq, Bool.not_eq_true', Bool.not_eq_false', Bool.not_eq_true, Bool.not_eq_false, ne_eq, Int.not_lt, Int.not_le, Bool.and_eq_true, Bool.or_eq_true, Bool.or_eq_false_iff, Bool.and_eq_false_imp, strOf_toList, Decidable.not_not] at h2)
    · skip
      have e1 : sendR e p m now = (Ep.none, Msg.none, 16) := by rw [sendR, if_pos hok, if_pos (by omega)]
      refine AW.seq ?_
      refine AW.region ?_
      refine AO.op (O.build rfl rfl rfl (by rfl)) rfl rfl rfl ?_
      refine AO.op (O.build rfl rfl rfl (by rfl)) rfl rfl rfl ?_
      (refine AO.store (i := 4) rfl rfl rfl rfl rfl rfl (by rfl) (by rfl) (by rfl) (by (dsimp only [List.set, List.append, List.cons_append, List.nil_append, AV.cells, splice, List.take, List.drop, Nat.reduceAdd]; done)) (by (dsimp only [List.set, List.append, List.cons_append, List.nil_append, AV.cells, splice, List.take, List.drop, Nat.reduceAdd]; done)) ?_)
      (refine AO.store (i := 3) rfl rfl rfl rfl rfl rfl (by rfl) (by rfl) (by rfl) (by (dsimp only [List.set, List.append, List.cons_append, List.nil_append, AV.cells, splice, List.take, List.drop, Nat.reduceAdd]; done)) (by (dsimp only [List.set, List.append, List.cons_append, List.nil_append, AV.cells, splice, List.take, List.drop, Nat.reduceAdd]; done)) ?_)
      refine AO.op (O.assign rfl rfl) rfl rfl rfl ?_
      refine AO.nil ?_
      refine AQ.thenN ?_
      refine AW.ret ?_
      refine AQ.thenR ?_
      refine FnQ.coe (AQ.ret3G rfl (by exact ResAt.cell rfl (by repeat (first | exact List.Mem.head _ | refine List.Mem.tail _ ?_)) (by (dsimp only [List.set, List.append, List.cons_append, List.nil_append, AV.cells, splice, List.take, List.drop, Nat.reduceAdd]; done)) (by rfl)) (by exact ResAt.cell rfl (by repeat (first | exact List.Mem.head _ | refine List.Mem.tail _ ?_)) (by (dsimp only [List.set, List.append, List.cons_append, List.nil_append, AV.cells, splice, List.take, List.drop, Nat.reduceAdd]; done)) (by rfl)) (by exact ResAt.tmp rfl) ⟨_, List.nil_sublist _, .nil⟩ ⟨rfl, rfl⟩) (Coe.tup (by (repeat (first | exact CoeL.nil | refine CoeL.cons Coe.rfl ?_ | refine CoeL.cons Coe.nil ?_ | refine CoeL.cons (Coe.agg ?_) ?_)); done)) (ret3S e1 rfl)
    · skip
      have hfu : ¬SendFull (cleanE e now) m := by omega
      have e1 : sendR e p m now = (sentE (cleanE e now) p m now (freeI (cleanE e now).out (cleanE e now).used p e.next), { m with id := freeI (cleanE e now).out (cleanE e now).used p e.next }, 0) := by rw [sendR, if_pos hok, if_neg hfu]
      have hfl : (cleanE e now).used.length + (cleanE e now).out.length ≤ 48 := by rw [cleanE_out]; omega
      obtain ⟨id, hid⟩ : ∃ id, id = freeI (cleanE e now).out (cleanE e now).used p e.next := ⟨_, rfl⟩
      have hidb : 0 ≤ id ∧ id ≤ 65535 := by rw [hid]; unfold freeI; omega
      rw [← hid] at e1
      have hfree : Sp Try.prog 46 [.agg [.val (.int .i64 e.next), roW (cleanE e now).out, roU (cleanE e now).used, .val V35], .val (.int .i64 p)] [] (Is (.val (.int .i64 id))) := by
        rw [hid]; exact free_fn e.next (cleanE e now).out (cleanE e now).used V35 hV35 p hv.1 hfl
      refine AW.skip ?_
      refine AQ.thenN ?_
      refine AW.seq ?_
      refine AW.region ?_
      (refine AO.op (O.loadK rfl rfl (by repeat (first | exact List.Mem.head _ | refine List.Mem.tail _ ?_)) (by (dsimp only [List.set, List.append, List.cons_append, List.nil_append, AV.cells, splice, List.take, List.drop, Nat.reduceAdd]; done)) (by rfl)) rfl rfl rfl ?_)
      refine AO.op (O.move rfl rfl) rfl rfl rfl ?_
      (refine AO.op (O.callX rfl Try.func46 rfl rfl rfl (hfree) (by (repeat (first | exact LendX.nil | refine LendX.same ?_ | refine LendX.row 1 rfl ?_ | refine LendX.row 2 rfl ?_ | refine LendX.agg ?_ ?_)); done)) rfl rfl rfl ?_)
      refine AO.op (O.fieldAddr rfl rfl) rfl rfl rfl ?_
      (refine AO.store (i := 5) rfl rfl rfl rfl rfl rfl (by rfl) (by rfl) (by rfl) (by (dsimp only [List.set, List.append, List.cons_append, List.nil_append, AV.cells, splice, List.take, List.drop, Nat.reduceAdd]; done)) (by (dsimp only [List.set, List.append, List.cons_append, List.nil_append, AV.cells, splice, List.take, List.drop, Nat.reduceAdd]; done)) ?_)
      refine AO.nil ?_
      refine AQ.thenN ?_
      refine AW.seq ?_
      refine AW.region ?_
      refine AO.op (O.fieldAddr rfl rfl) rfl rfl rfl ?_
      refine AO.op (O.load rfl rfl (by repeat (first | exact List.Mem.head _ | refine List.Mem.tail _ ?_)) (by rfl)) rfl rfl rfl ?_
      refine AO.op (O.add rfl rfl rfl (by exact wI64 (by omega))) rfl rfl rfl ?_
      refine AO.op (O.and_ rfl rfl rfl (andI64 16 (by decide) (by decide) (m := 65536) (by decide) (by omega))) rfl rfl rfl ?_
      refine AO.op (O.fieldAddr rfl rfl) rfl rfl rfl ?_
      (refine AO.store (i := 6) rfl rfl rfl rfl rfl rfl (by rfl) (by rfl) (by rfl) (by (dsimp only [List.set, List.append, List.cons_append, List.nil_append, AV.cells, splice, List.take, List.drop, Nat.reduceAdd]; done)) (by (dsimp only [List.set, List.append, List.cons_append, List.nil_append, AV.cells, splice, List.take, List.drop, Nat.reduceAdd]; done)) ?_)
      refine AO.nil ?_
      refine AQ.thenN ?_
      refine AW.seq ?_
      refine AW.region ?_
      refine AO.op (O.fieldAddr rfl rfl) rfl rfl rfl ?_
      refine AO.op (O.load rfl rfl (by repeat (first | exact List.Mem.head _ | refine List.Mem.tail _ ?_)) (by rfl)) rfl rfl rfl ?_
      refine AO.op (O.move rfl rfl) rfl rfl rfl ?_
      refine AO.op (O.fieldAddr rfl rfl) rfl rfl rfl ?_
      refine AO.op (O.load rfl rfl (by repeat (first | exact List.Mem.head _ | refine List.Mem.tail _ ?_)) (by rfl)) rfl rfl rfl ?_
      refine AO.op (O.move rfl rfl) rfl rfl rfl ?_
      refine AO.op (O.add rfl rfl rfl (by exact wI64 (by omega))) rfl rfl rfl ?_
      refine AO.op (O.build rfl rfl rfl (by rfl)) rfl rfl rfl ?_
      refine AO.opB (O.buildSlice rfl rfl rfl (by rfl) (by rfl) (by rfl) (by rfl)) rfl rfl rfl ?_
      intro B6
      refine AO.g ?_
      (refine G.freezeSl 0 78 rfl rfl ⟨Nat.le_refl _, by unfold maxLen; omega⟩ ?_)
      refine G.unfull 78 rfl ?_
      refine AO.u ?_
      dsimp only [List.eraseIdx]
      (refine AO.append' (i := 1) rfl rfl rfl rfl (by rfl) (by rfl) rfl rfl rfl (by exact SrcA.ro TyD.ax (by rfl) (Nat.le_of_ble_eq_true rfl)) (by rfl) (by (unfold maxLen; omega)) (by omega) (by (dsimp only [List.set, List.append, List.cons_append, List.nil_append, AV.cells, splice, List.take, List.drop, Nat.reduceAdd]; done)) (fun _ => by (dsimp only [List.set]; done)) ?_)
      intro V7 hV7
      refine AO.op (O.fieldAddr rfl rfl) rfl rfl rfl ?_
      (refine AO.store (i := 6) rfl rfl rfl rfl rfl rfl (by (simp [AV.cells, AV.one, *]; done)) (by rfl) (by rfl) (by (dsimp only [List.set, List.append, List.cons_append, List.nil_append, AV.cells, splice, List.take, List.drop, Nat.reduceAdd]; done)) (by (dsimp only [List.set, List.append, List.cons_append, List.nil_append, AV.cells, splice, List.take, List.drop, Nat.reduceAdd]; done)) ?_)
      refine AO.nil ?_
      refine AQ.thenN ?_
      refine AW.seq ?_
      refine AW.seq ?_
      refine AW.region ?_
      refine AO.op (O.fieldAddr rfl rfl) rfl rfl rfl ?_
      refine AO.op (O.load rfl rfl (by repeat (first | exact List.Mem.head _ | refine List.Mem.tail _ ?_)) (by rfl)) rfl rfl rfl ?_
      refine AO.op (O.eql rfl rfl rfl (by rfl)) rfl rfl rfl ?_
      refine AO.nil ?_
      refine AQ.thenN ?_
      refine AW.split rfl (fun h0 => ?_) (fun h0 => ?_) <;> (try simp only [decide_eq_true_eq, decide_eq_false_iff_not, beq_iff_eq, beq_eq_false_iff_ne, bne_iff_ne, bne_eq_false_iff_eq, Bool.not_eq_true', Bool.not_eq_false', Bool.not_eq_true, Bool.not_eq_false, ne_eq, Int.not_lt, Int.not_le, Bool.and_eq_true, Bool.or_eq_true, Bool.or_eq_false_iff, Bool.and_eq_false_imp, strOf_toList, Decidable.not_not] at h0)
      · skip
        refine AW.regionD 9 (by kernel_rfl) (by kernel_rfl) ?_
        simp only [List.take_succ_cons, List.take_zero, List.drop_succ_cons, List.drop_zero]
        refine FA.op (O.fieldAddr rfl rfl) rfl rfl rfl rfl ?_
        refine FA.op (O.load rfl rfl (by repeat (first | exact List.Mem.head _ | refine List.Mem.tail _ ?_)) (by rfl)) rfl rfl rfl rfl ?_
        refine FA.op (O.move rfl rfl) rfl rfl rfl rfl ?_
        (refine FA.op (O.loadK rfl rfl (by repeat (first | exact List.Mem.head _ | refine List.Mem.tail _ ?_)) (by (dsimp only [List.set, List.append, List.cons_append, List.nil_append, AV.cells, splice, List.take, List.drop, Nat.reduceAdd]; done)) (by rfl)) rfl rfl rfl rfl ?_)
        refine FA.op (O.call rfl Try.func47 rfl rfl rfl (message_fn { m with id := id } hmm)) rfl rfl rfl rfl ?_
        refine FA.op (O.move rfl rfl) rfl rfl rfl rfl ?_
        refine FA.op (O.add rfl rfl rfl (by exact wI64 (by omega))) rfl rfl rfl rfl ?_
        refine FA.op (O.build rfl rfl rfl (by rfl)) rfl rfl rfl rfl ?_
        refine FA.op (OpW.frz (O.buildSlice rfl rfl rfl (by rfl) (by rfl) (by rfl) (by rfl)) (by (unfold maxLen; omega))) rfl rfl rfl rfl ?_
        refine FA.nil ?_
        simp only [chosen, List.nil_append, List.cons_append, List.append_nil]
        (refine AO.append' (i := 2) rfl rfl rfl rfl (by rfl) (by rfl) rfl rfl rfl (by exact SrcA.ro TyD.ax (by rfl) (Nat.le_of_ble_eq_true rfl)) (by rfl) (by (unfold maxLen; omega)) (by omega) (by (dsimp only [List.set, List.append, List.cons_append, List.nil_append, AV.cells, splice, List.take, List.drop, Nat.reduceAdd]; done)) (fun _ => by (dsimp only [List.set]; done)) ?_)
        intro V8 hV8
        refine AO.op (O.fieldAddr rfl rfl) rfl rfl rfl ?_
        (refine AO.store (i := 6) rfl rfl rfl rfl rfl rfl (by (simp [AV.cells, AV.one, *]; done)) (by rfl) (by rfl) (by (dsimp only [List.set, List.append, List.cons_append, List.nil_append, AV.cells, splice, List.take, List.drop, Nat.reduceAdd]; done)) (by (dsimp only [List.set, List.append, List.cons_append, List.nil_append, AV.cells, splice, List.take, List.drop, Nat.reduceAdd]; done)) ?_)
        refine AO.nil ?_
        refine AQ.thenN ?_
        refine AW.seq ?_
        refine AW.regionD 3 (by kernel_rfl) (by kernel_rfl) ?_
        simp only [List.take_succ_cons, List.take_zero, List.drop_succ_cons, List.drop_zero]
        (refine FA.op (O.loadK rfl rfl (by repeat (first | exact List.Mem.head _ | refine List.Mem.tail _ ?_)) (by (dsimp only [List.set, List.append, List.cons_append, List.nil_append, AV.cells, splice, List.take, List.drop, Nat.reduceAdd]; done)) (by rfl)) rfl rfl rfl rfl ?_)
        (refine FA.op (O.loadK rfl rfl (by repeat (first | exact List.Mem.head _ | refine List.Mem.tail _ ?_)) (by (dsimp only [List.set, List.append, List.cons_append, List.nil_append, AV.cells, splice, List.take, List.drop, Nat.reduceAdd]; done)) (by rfl)) rfl rfl rfl rfl ?_)
        refine FA.op (O.call rfl Try.func47 rfl rfl rfl (message_fn { m with id := id } hmm)) rfl rfl rfl rfl ?_
        refine FA.nil ?_
        simp only [chosen, List.nil_append, List.cons_append, List.append_nil]
        (refine AO.store (i := 4) rfl rfl rfl rfl rfl rfl (by (simp [AV.cells, AV.one, roB, roI, roO, show ∀ k z, (Value.int k z).oneCell' = true from fun _ _ => rfl, show ∀ k, (Value.bool k).oneCell' = true from fun _ => rfl, *]; done)) (by rfl) (by rfl) (by (dsimp only [List.set, List.append, List.cons_append, List.nil_append, AV.cells, splice, List.take, List.drop, Nat.reduceAdd]; done)) (by (dsimp only [List.set, List.append, List.cons_append, List.nil_append, AV.cells, splice, List.take, List.drop, Nat.reduceAdd]; done)) ?_)
        (refine AO.store (i := 3) rfl rfl rfl rfl rfl rfl (by rfl) (by rfl) (by rfl) (by (dsimp only [List.set, List.append, List.cons_append, List.nil_append, AV.cells, splice, List.take, List.drop, Nat.reduceAdd]; done)) (by (dsimp only [List.set, List.append, List.cons_append, List.nil_append, AV.cells, splice, List.take, List.drop, Nat.reduceAdd]; done)) ?_)
        refine AO.op (O.assign rfl rfl) rfl rfl rfl ?_
        refine AO.nil ?_
        refine AQ.thenN ?_
        refine AW.ret ?_
        refine AQ.g ?_
        refine G.freezeCell 0 3 3 rfl rfl rfl ?_
        refine AQ.u ?_
        dsimp only [List.eraseIdx, List.set]
        refine AQ.g ?_
        refine G.freezeCell 0 2 2 rfl rfl rfl ?_
        refine AQ.u ?_
        dsimp only [List.eraseIdx, List.set]
        refine AQ.g ?_
        refine G.freezeCell 0 1 1 rfl rfl rfl ?_
        refine AQ.u ?_
        dsimp only [List.eraseIdx, List.set]
        rw [sentE_con h0] at e1
        refine FnQ.coe (AQ.ret3G rfl (by exact ResAt.cell rfl (by repeat (first | exact List.Mem.head _ | refine List.Mem.tail _ ?_)) (by (dsimp only [List.set, List.append, List.cons_append, List.nil_append, AV.cells, splice, List.take, List.drop, Nat.reduceAdd]; done)) (by rfl)) (by exact ResAt.cell rfl (by repeat (exact List.Mem.head _)) (by (dsimp only [List.set, List.append, List.cons_append, List.nil_append, AV.cells, splice, List.take, List.drop, Nat.reduceAdd]; done)) (by rfl)) (by exact ResAt.tmp rfl) ⟨_, List.nil_sublist _, .nil⟩ ⟨rfl, rfl⟩) (Coe.tup (by (repeat (first | exact CoeL.nil | refine CoeL.cons Coe.rfl ?_)); done)) (ret3S e1 (aggE_tup (aggE_of (e := ⟨_, _, _, _⟩) (snoc_len _ _) (wtsA_snoc _ _).symm (snoc_len _ _) (ussA_snoc _ _).symm rfl rfl) _))
      · skip
        refine AW.skip ?_
        refine AQ.thenN ?_
        refine AW.seq ?_
        refine AW.regionD 3 (by kernel_rfl) (by kernel_rfl) ?_
        simp only [List.take_succ_cons, List.take_zero, List.drop_succ_cons, List.drop_zero]
        (refine FA.op (O.loadK rfl rfl (by repeat (first | exact List.Mem.head _ | refine List.Mem.tail _ ?_)) (by (dsimp only [List.set, List.append, List.cons_append, List.nil_append, AV.cells, splice, List.take, List.drop, Nat.reduceAdd]; done)) (by rfl)) rfl rfl rfl rfl ?_)
        (refine FA.op (O.loadK rfl rfl (by repeat (first | exact List.Mem.head _ | refine List.Mem.tail _ ?_)) (by (dsimp only [List.set, List.append, List.cons_append, List.nil_append, AV.cells, splice, List.take, List.drop, Nat.reduceAdd]; done)) (by rfl)) rfl rfl rfl rfl ?_)
        refine FA.op (O.call rfl Try.func47 rfl rfl rfl (message_fn { m with id := id } hmm)) rfl rfl rfl rfl ?_
        refine FA.nil ?_
        simp only [chosen, List.nil_append, List.cons_append, List.append_nil]
        (refine AO.store (i := 4) rfl rfl rfl rfl rfl rfl (by (simp [AV.cells, AV.one, roB, roI, roO, show ∀ k z, (Value.int k z).oneCell' = true from fun _ _ => rfl, show ∀ k, (Value.bool k).oneCell' = true from fun _ => rfl, *]; done)) (by rfl) (by rfl) (by (dsimp only [List.set, List.append, List.cons_append, List.nil_append, AV.cells, splice, List.take, List.drop, Nat.reduceAdd]; done)) (by (dsimp only [List.set, List.append, List.cons_append, List.nil_append, AV.cells, splice, List.take, List.drop, Nat.reduceAdd]; done)) ?_)
        (refine AO.store (i := 3) rfl rfl rfl rfl rfl rfl (by rfl) (by rfl) (by rfl) (by (dsimp only [List.set, List.append, List.cons_append, List.nil_append, AV.cells, splice, List.take, List.drop, Nat.reduceAdd]; done)) (by (dsimp only [List.set, List.append, List.cons_append, List.nil_append, AV.cells, splice, List.take, List.drop, Nat.reduceAdd]; done)) ?_)
        refine AO.op (O.assign rfl rfl) rfl rfl rfl ?_
        refine AO.nil ?_
        refine AQ.thenN ?_
        refine AW.ret ?_
        refine AQ.g ?_
        refine G.freezeCell 0 3 3 rfl rfl rfl ?_
        refine AQ.u ?_
        dsimp only [List.eraseIdx, List.set]
        refine AQ.g ?_
        refine G.freezeCell 0 2 2 rfl rfl rfl ?_
        refine AQ.u ?_
        dsimp only [List.eraseIdx, List.set]
        refine AQ.g ?_
        refine G.freezeCell 0 1 1 rfl rfl rfl ?_
        refine AQ.u ?_
        dsimp only [List.eraseIdx, List.set]
        rw [sentE_non h0] at e1
        refine FnQ.coe (AQ.ret3G rfl (by exact ResAt.cell rfl (by repeat (first | exact List.Mem.head _ | refine List.Mem.tail _ ?_)) (by (dsimp only [List.set, List.append, List.cons_append, List.nil_append, AV.cells, splice, List.take, List.drop, Nat.reduceAdd]; done)) (by rfl)) (by exact ResAt.cell rfl (by repeat (exact List.Mem.head _)) (by (dsimp only [List.set, List.append, List.cons_append, List.nil_append, AV.cells, splice, List.take, List.drop, Nat.reduceAdd]; done)) (by rfl)) (by exact ResAt.tmp rfl) ⟨_, List.nil_sublist _, .nil⟩ ⟨rfl, rfl⟩) (Coe.tup (by (repeat (first | exact CoeL.nil | refine CoeL.cons Coe.rfl ?_)); done)) (ret3S e1 (aggE_tup (aggE_of (e := ⟨_, _, _, _⟩) rfl rfl (snoc_len _ _) (ussA_snoc _ _).symm rfl rfl) _))
end Go.Proofs.Ytdnmilmcdbgppaa.By

namespace Go.Proofs.Ytdnmilmcdbgppaa.By
open Go.RowKit L A
set_option linter.unusedVariables false
set_option maxRecDepth 20000
set_option linter.unusedSimpArgs false
attribute [local irreducible] AW AQ AO
end Go.Proofs.Ytdnmilmcdbgppaa.By

namespace Go.Proofs.Ytdnmilmcdbgppaa.By
open Go.RowKit L A
set_option linter.unusedVariables false
set_option maxRecDepth 20000
set_option linter.unusedSimpArgs false
attribute [local irreducible] AW AQ AO
def pw (s : Int) : Int := 2 * 2 ^ s.toNat
theorem pw_bd {s : Int} (h : 0 ≤ s) (h2 : s ≤ 4) : 2 ≤ pw s ∧ pw s ≤ 32 := by
  obtain ⟨n, rfl⟩ : ∃ n : Nat, s = (n : Int) := ⟨s.toNat, by omega⟩
  have h3 : n < 5 := by omega
  match n, h3 with
  | 0, _ | 1, _ | 2, _ | 3, _ | 4, _ => decide
theorem shl_pw {s : Int} (h : 0 ≤ s) (h2 : s ≤ 4) : IntKind.i64.wrap (2 * 2 ^ (min s.toNat IntKind.i64.bits)) = pw s := by
  obtain ⟨n, rfl⟩ : ∃ n : Nat, s = (n : Int) := ⟨s.toNat, by omega⟩
  have h3 : n < 5 := by omega
  match n, h3 with
  | 0, _ | 1, _ | 2, _ | 3, _ | 4, _ => decide
def bumpW (now : Int) (w : Wt) : Wt := ⟨w.peer, w.m, now + pw w.sent, w.sent + 1⟩
def stayF (now : Int) (w : Wt) : Option Wt := if now < w.due then some w else if w.sent ≤ 4 then some (bumpW now w) else none
def againF (now : Int) (w : Wt) : Option Wt := if now < w.due then none else if w.sent ≤ 4 then some (bumpW now w) else none
def overF (now : Int) (w : Wt) : Option Wt := if now < w.due then none else if w.sent ≤ 4 then none else some w
theorem fm_succ {α β : Type} (f : α → Option β) (d : α) {l : List α} {k : Nat} (h : k < l.length) : (l.take (k + 1)).filterMap f = (l.take k).filterMap f ++ (f (l.getD k d)).toList := by
  rw [take_snoc d h, List.filterMap_append]
  generalize l.getD k d = x
  cases hp : f x <;> simp [hp]
theorem fm_len {α β : Type} (f : α → Option β) (l : List α) (k : Nat) : ((l.take k).filterMap f).length ≤ k := Nat.le_trans (List.length_filterMap_le _ _) (by rw [List.length_take]; omega)
def tickR (e : Ep) (now : Int) : Ep × List Wt × List Wt × Int :=
  if ValE e ∧ TimeOk now then (⟨e.next, e.out.filterMap (stayF now), (cleanE e now).used, (cleanE e now).inn⟩, e.out.filterMap (againF now), e.out.filterMap (overF now), 0) else (Ep.none, [], [], 1)
abbrev resT (r : Ep × List Wt × List Wt × Int) : AV := .tup [aggE r.1, roW r.2.1, roW r.2.2.1, .val (.int .i64 r.2.2.2)]
theorem ret4T {q : AV} {r : Ep × List Wt × List Wt × Int} {a : Ep} {b c : List Wt} {d : Int} (h : r = (a, b, c, d)) (hq : q = .tup [aggE a, roW b, roW c, .val (.int .i64 d)]) : Is (resT r) q [] := by subst h; exact ⟨hq, rfl⟩
set_option maxHeartbeats 4000000 in
theorem tick_fn (e : Ep) (now : Int) (hb : BdE e) : Sp Try.prog 22 [aggE e, .val (.int .i64 now)] [] (Is (resT (tickR e now))) := by
  refine Sp.enter Try.func22 rfl _ Try.ntmps22 rfl (fun w0 R0 => ?_)
  refine AW.seq ?_
  refine AW.region ?_
  refine AO.opB (O.box rfl rfl rfl rfl rfl) rfl rfl rfl ?_
  intro B1
  refine AO.opB (O.alloc rfl (by (dsimp only [zerosA, List.replicate, List.append, List.flatten, AV.cells, Value.cells, List.toList_toArray, List.map]; done)) (by rfl)) rfl rfl rfl ?_
  intro B2
  refine AO.op (O.assign rfl rfl) rfl rfl rfl ?_
  refine AO.op (O.assign rfl rfl) rfl rfl rfl ?_
  refine AO.op (O.assign rfl rfl) rfl rfl rfl ?_
  refine AO.nil ?_
  refine AQ.thenN ?_
  refine AW.seq ?_
  refine AW.seq ?_
  refine AW.region ?_
  refine AO.op (O.loadK rfl rfl (by repeat (first | exact List.Mem.head _ | refine List.Mem.tail _ ?_)) (by rfl) (by rfl)) rfl rfl rfl ?_
  refine AO.op (O.call rfl Try.func15 rfl rfl rfl (evalid_fn e hb)) rfl rfl rfl ?_
  refine AO.op (O.not rfl rfl (by rfl)) rfl rfl rfl ?_
  refine AO.op (O.move rfl rfl) rfl rfl rfl ?_
  refine AO.opG rfl rfl rfl (fun hp => O.move rfl rfl) ?_
  refine AO.opG rfl rfl rfl (fun hp => OpW.force 17 rfl (by exact hp) (O.call rfl Try.func43 rfl rfl rfl (timeOK_fn _))) ?_
  refine AO.opG rfl rfl rfl (fun hp => OpW.force 18 rfl (by exact hp) (O.not rfl rfl (by rfl))) ?_
  refine AO.op (O.pickOr rfl rfl rfl rfl (fun h => by exact congrArg (fun b => !b) h)) rfl rfl rfl ?_
  refine AO.nil ?_
  refine AQ.thenN ?_
  refine AW.split rfl (fun h => ?_) (fun h => ?_) <;> (try simp only [decide_eq_true_eq, decide_eq_false_iff_not, beq_iff_eq, beq_eq_false_iff_ne, bne_iff_ne, bne_eq_false_iff_eq, Bool.not_eq_true', Bool.not_eq_false', Bool.not_eq_true, Bool.not_eq_false, ne_eq, Int.not_lt, Int.not_le, Bool.and_eq_true, Bool.or_eq_true, Bool.or_eq_false_iff, Bool.and_eq_false_imp, strOf_toList, Decidable.not_not] at h)
  · skip
    have e1 : tickR e now = (Ep.none, [], [], 1) := if_neg (by rintro ⟨h1, h2⟩; exact h.elim (fun g => g h1) (fun g => g h2))
    refine AW.seq ?_
    refine AW.region ?_
    refine AO.op (O.build rfl rfl rfl (by rfl)) rfl rfl rfl ?_
    (refine AO.store (i := 0) rfl rfl rfl rfl rfl rfl (by rfl) (by rfl) (by rfl) (by (dsimp only [List.set, List.append, List.cons_append, List.nil_append, AV.cells, splice, List.take, List.drop, Nat.reduceAdd]; done)) (by (dsimp only [List.set, List.append, List.cons_append, List.nil_append, AV.cells, splice, List.take, List.drop, Nat.reduceAdd]; done)) ?_)
    refine AO.op (O.assign rfl rfl) rfl rfl rfl ?_
    refine AO.op (O.assign rfl rfl) rfl rfl rfl ?_
    refine AO.op (O.assign rfl rfl) rfl rfl rfl ?_
    refine AO.nil ?_
    refine AQ.thenN ?_
    refine AW.ret ?_
    refine AQ.thenR ?_
    refine FnQ.coe (AQ.ret4G rfl (by exact ResAt.cell rfl (by repeat (exact List.Mem.head _)) (by (dsimp only [List.set, List.append, List.cons_append, List.nil_append, AV.cells, splice, List.take, List.drop, Nat.reduceAdd]; done)) (by rfl)) (by exact ResAt.tmp rfl) (by exact ResAt.tmp rfl) (by exact ResAt.tmp rfl) ⟨_, List.nil_sublist _, .nil⟩ ⟨rfl, rfl⟩) (Coe.tup (by (repeat (first | exact CoeL.nil | refine CoeL.cons Coe.rfl ?_ | refine CoeL.cons Coe.nil ?_ | refine CoeL.cons (Coe.agg ?_) ?_)); done)) (ret4T e1 rfl)
  · skip
    obtain ⟨hv, ht⟩ := h
    have hsm := ValE.sm hv
    have hv1 := hv.2.1
    have hv5 := hv.2.2.2.2.1
    have e1 : tickR e now = _ := if_pos ⟨hv, ht⟩
    refine AW.skip ?_
    refine AQ.thenN ?_
    refine AW.seq ?_
    refine AW.region ?_
    refine AO.op (O.loadK rfl rfl (by repeat (first | exact List.Mem.head _ | refine List.Mem.tail _ ?_)) (by rfl) (by rfl)) rfl rfl rfl ?_
    refine AO.op (O.move rfl rfl) rfl rfl rfl ?_
    refine AO.opN (O.call rfl Try.func45 rfl rfl rfl (cleaned_fn e now hsm)) rfl rfl rfl ?_
    rintro _ _ ⟨V13, V23, V33, hV13, hV23, hV33, rfl, rfl⟩
    simp only [List.cons_append, List.nil_append]
    (refine AO.store (i := 4) rfl rfl rfl rfl rfl rfl (by (simp [AV.cells, AV.one, roB, roI, roO, show ∀ k z, (Value.int k z).oneCell' = true from fun _ _ => rfl, show ∀ k, (Value.bool k).oneCell' = true from fun _ => rfl, *]; done)) (by rfl) (by rfl) (by (dsimp only [List.set, List.append, List.cons_append, List.nil_append, AV.cells, splice, List.take, List.drop, Nat.reduceAdd]; done)) (by (dsimp only [List.set, List.append, List.cons_append, List.nil_append, AV.cells, splice, List.take, List.drop, Nat.reduceAdd]; done)) ?_)
    refine AO.nil ?_
    refine AQ.thenN ?_
    refine AW.seq ?_
    refine AW.region ?_
    refine AO.op (O.assign rfl rfl) rfl rfl rfl ?_
    refine AO.g ?_
    refine G.freezeCell 2 3 1 rfl rfl rfl ?_
    dsimp only [List.eraseIdx, List.set]
    refine AO.u ?_
    refine AO.op (O.assign rfl rfl) rfl rfl rfl ?_
    refine AO.op (O.assign rfl rfl) rfl rfl rfl ?_
    refine AO.nil ?_
    refine AQ.thenN ?_
    refine AW.seq ?_
    refine AW.seq ?_
    refine AW.region ?_
    refine AO.op (O.fieldAddr rfl rfl) rfl rfl rfl ?_
    refine AO.op (O.load rfl rfl (by repeat (first | exact List.Mem.head _ | refine List.Mem.tail _ ?_)) (by rfl)) rfl rfl rfl ?_
    refine AO.op (O.lenR rfl rfl) rfl rfl rfl ?_
    refine AO.op (O.move rfl rfl) rfl rfl rfl ?_
    refine AO.nil ?_
    refine AQ.thenN ?_
    refine AW.block ?_
    refine AW.g ?_
    refine G.re 26 (roW e.out) rfl ?_
    refine AW.u ?_
    refine AW.g ?_
    refine G.re 27 (.val (.int .i64 (e.out.length : Int))) rfl ?_
    refine AW.u ?_
    refine AW.g ?_
    refine G.nilRow 71 9 ?_
    refine AW.u ?_
    refine AW.g ?_
    refine G.nilRow 71 9 ?_
    refine AW.u ?_
    refine AW.g ?_
    refine G.nilRow 71 9 ?_
    refine AW.u ?_
    refine AW.loopK [(1, _), (2, _), (4, _), (26, _), (27, _)] (fun nn E H => ∃ (k : Nat) (Va Vb Vc : Value), (k ≤ e.out.length) ∧ (Va.oneCell' = true) ∧ (Vb.oneCell' = true) ∧ (Vc.oneCell' = true) ∧ nn = e.out.length - k ∧ E = [(8, .val Va), (9, .val Vb), (10, .val Vc), (28, .val (.int .i64 (k : Int)))] ∧ H = [.row Va 71 9 ((e.out.take k).filterMap (stayF now)).length (wtsA ((e.out.take k).filterMap (stayF now))), .row Vb 71 9 ((e.out.take k).filterMap (againF now)).length (wtsA ((e.out.take k).filterMap (againF now))), .row Vc 71 9 ((e.out.take k).filterMap (overF now)).length (wtsA ((e.out.take k).filterMap (overF now))), .row V33 63 10 (cleanE e now).inn.length (hdsA (cleanE e now).inn), .row V23 60 3 (cleanE e now).used.length (ussA (cleanE e now).used), .blk B2 26 4 [.val (.int .i64 0), .val nilS, .val nilS, .val nilS], .blk B1 26 4 [.val (.int .i64 e.next), roW e.out, .val V23, .val V33]]) _ (⟨0, nilS, nilS, nilS, by omega, rfl, rfl, rfl, rfl, rfl, rfl⟩) (by repeat (first | exact envNil | refine envCons rfl ?_)) (by repeat (first | exact envNil | refine envCons rfl ?_)) (by repeat (first | exact subPnil | refine subPcons 0 rfl ?_)) ?_
    rintro nn E H ⟨k, Va, Vb, Vc, hk1, hVa, hVb, hVc, rfl, rfl, rfl⟩
    dsimp only [List.cons_append, List.nil_append]
    have hl1 := fm_len (stayF now) e.out k
    have hl2 := fm_len (againF now) e.out k
    have hl3 := fm_len (overF now) e.out k
    refine AW.seq ?_
    refine AW.region ?_
    refine AO.op (O.lss rfl rfl rfl (by rfl)) rfl rfl rfl ?_
    refine AO.nil ?_
    refine AQ.thenN ?_
    refine AW.seq ?_
    refine AW.split rfl (fun hlt => ?_) (fun hlt => ?_) <;> (try simp only [decide_eq_true_eq, decide_eq_false_iff_not, beq_iff_eq, beq_eq_false_iff_ne, bne_iff_ne, bne_eq_false_iff_eq, Bool.not_eq_true', Bool.not_eq_false', Bool.not_eq_true, Bool.not_eq_false, ne_eq, Int.not_lt, Int.not_le, Bool.and_eq_true, Bool.or_eq_true, Bool.or_eq_false_iff, Bool.and_eq_false_imp, strOf_toList, Decidable.not_not] at hlt)
    · skip
      have hk : k < e.out.length := by omega
      obtain ⟨w, hw⟩ : ∃ w, w = wt e.out k := ⟨_, rfl⟩
      have hok : OkW w := by rw [hw]; exact hv5 _ (getD_mem _ hk)
      have hmm : SmM w.m := hok.2.2.1.sm
      have hs1 := hok.2.2.2.2.1
      have hs2 : (e.out.take (k + 1)).filterMap (stayF now) = (e.out.take k).filterMap (stayF now) ++ (stayF now (wt e.out k)).toList := fm_succ (stayF now) Wt.none hk
      have hs3 : (e.out.take (k + 1)).filterMap (againF now) = (e.out.take k).filterMap (againF now) ++ (againF now (wt e.out k)).toList := fm_succ (againF now) Wt.none hk
      have hs4 : (e.out.take (k + 1)).filterMap (overF now) = (e.out.take k).filterMap (overF now) ++ (overF now (wt e.out k)).toList := fm_succ (overF now) Wt.none hk
      have hgw := getW hk (j := Int.toNat (k : Int)) (by omega)
      rw [← hw] at hs2 hs3 hs4 hgw
      refine AW.skip ?_
      refine AQ.thenN ?_
      refine AW.seq ?_
      refine AW.block ?_
      refine AW.seq ?_
      refine AW.region ?_
      refine AO.op (O.idxR rfl rfl rfl ⟨(by omega), (by omega)⟩) rfl rfl rfl ?_
      refine AO.op (O.loadRK rfl rfl (by exact hgw) (by rfl)) rfl rfl rfl ?_
      refine AO.opB (O.alloc rfl (by (dsimp only [zerosA, List.replicate, List.append, List.flatten, AV.cells, Value.cells, List.toList_toArray, List.map]; done)) (by rfl)) rfl rfl rfl ?_
      intro B4
      (refine AO.store (i := 0) rfl rfl rfl rfl rfl rfl (by rfl) (by rfl) (by rfl) (by (dsimp only [List.set, List.append, List.cons_append, List.nil_append, AV.cells, splice, List.take, List.drop, Nat.reduceAdd]; done)) (by (dsimp only [List.set, List.append, List.cons_append, List.nil_append, AV.cells, splice, List.take, List.drop, Nat.reduceAdd]; done)) ?_)
      refine AO.nil ?_
      refine AQ.thenN ?_
      refine AW.block ?_
      refine AW.seq ?_
      refine AW.region ?_
      refine AO.op (O.fieldAddr rfl rfl) rfl rfl rfl ?_
      refine AO.op (O.load rfl rfl (by repeat (exact List.Mem.head _)) (by rfl)) rfl rfl rfl ?_
      refine AO.op (O.move rfl rfl) rfl rfl rfl ?_
      refine AO.op (O.gtr rfl rfl rfl (by rfl)) rfl rfl rfl ?_
      refine AO.op (O.assign rfl rfl) rfl rfl rfl ?_
      refine AO.nil ?_
      refine AQ.thenN ?_
      refine AW.split rfl (fun h36 => ?_) (fun h36 => ?_) <;> (try simp only [decide_eq_true_eq, decide_eq_false_iff_not, beq_iff_eq, beq_eq_false_iff_ne, bne_iff_ne, bne_eq_false_iff_eq, Bool.not_eq_true', Bool.not_eq_false', Bool.not_eq_true, Bool.not_eq_false, ne_eq, Int.not_lt, Int.not_le, Bool.and_eq_true, Bool.or_eq_true, Bool.or_eq_false_iff, Bool.and_eq_false_imp, strOf_toList, Decidable.not_not] at h36)
      · skip
        rw [stayF, if_pos h36, Option.toList_some] at hs2
        rw [againF, if_pos h36, Option.toList_none, List.append_nil] at hs3
        rw [overF, if_pos h36, Option.toList_none, List.append_nil] at hs4
        refine AW.region ?_
        refine AO.op (O.move rfl rfl) rfl rfl rfl ?_
        refine AO.op (O.loadK rfl rfl (by repeat (exact List.Mem.head _)) (by rfl) (by rfl)) rfl rfl rfl ?_
        refine AO.opB (O.buildSlice rfl rfl rfl (by rfl) (by rfl) (by rfl) (by rfl)) rfl rfl rfl ?_
        intro B5
        refine AO.g ?_
        (refine G.freezeSl 0 43 rfl rfl ⟨Nat.le_refl _, by unfold maxLen; omega⟩ ?_)
        refine G.unfull 43 rfl ?_
        refine AO.u ?_
        dsimp only [List.eraseIdx]
        (refine AO.append' (i := 1) rfl rfl rfl rfl (by rfl) (by rfl) rfl rfl rfl (by exact SrcA.ro TyD.ax (by rfl) (Nat.le_of_ble_eq_true rfl)) (by rfl) (by (unfold maxLen; omega)) (by omega) (by (dsimp only [List.set, List.append, List.cons_append, List.nil_append, AV.cells, splice, List.take, List.drop, Nat.reduceAdd]; done)) (fun _ => by (dsimp only [List.set]; done)) ?_)
        intro V6 hV6
        refine AO.op (O.assign rfl rfl) rfl rfl rfl ?_
        refine AO.nil ?_
        refine AQ.blockN ?_
        refine AQ.blockN ?_
        refine AQ.thenN ?_
        refine AW.region ?_
        refine AO.op (O.add rfl rfl rfl (by exact wI64 (by omega))) rfl rfl rfl ?_
        refine AO.op (O.move rfl rfl) rfl rfl rfl ?_
        refine AO.nil ?_
        refine AQ.loopKN _ _ _ (by omega) (⟨k + 1, _, Vb, Vc, by omega, ‹_›, hVb, hVc, rfl, rfl, by rw [hs2, hs3, hs4, wtsA_snoc, List.length_append]⟩) (by repeat (first | exact envNil | refine envCons rfl ?_)) (by repeat (first | exact envNil | refine envCons rfl ?_)) (by repeat (first | exact subPnil | refine subPcons 1 rfl ?_))
      · skip
        refine AW.seq ?_
        refine AW.region ?_
        refine AO.op (O.fieldAddr rfl rfl) rfl rfl rfl ?_
        refine AO.op (O.load rfl rfl (by repeat (exact List.Mem.head _)) (by rfl)) rfl rfl rfl ?_
        refine AO.op (O.leq rfl rfl rfl (by rfl)) rfl rfl rfl ?_
        refine AO.op (O.assign rfl rfl) rfl rfl rfl ?_
        refine AO.nil ?_
        refine AQ.thenN ?_
        refine AW.split rfl (fun h45 => ?_) (fun h45 => ?_) <;> (try simp only [decide_eq_true_eq, decide_eq_false_iff_not, beq_iff_eq, beq_eq_false_iff_ne, bne_iff_ne, bne_eq_false_iff_eq, Bool.not_eq_true', Bool.not_eq_false', Bool.not_eq_true, Bool.not_eq_false, ne_eq, Int.not_lt, Int.not_le, Bool.and_eq_true, Bool.or_eq_true, Bool.or_eq_false_iff, Bool.and_eq_false_imp, strOf_toList, Decidable.not_not] at h45)
        · skip
          rw [stayF, if_neg (by omega), if_pos h45, Option.toList_some] at hs2
          rw [againF, if_neg (by omega), if_pos h45, Option.toList_some] at hs3
          rw [overF, if_neg (by omega), if_pos h45, Option.toList_none, List.append_nil] at hs4
          have hpw := pw_bd (s := w.sent) (by omega) h45
          refine AW.seq ?_
          refine AW.region ?_
          refine AO.op (O.move rfl rfl) rfl rfl rfl ?_
          refine AO.op (O.fieldAddr rfl rfl) rfl rfl rfl ?_
          refine AO.op (O.load rfl rfl (by repeat (exact List.Mem.head _)) (by rfl)) rfl rfl rfl ?_
          refine AO.op (O.shl rfl rfl rfl (by omega) (shl_pw (s := w.sent) (by omega) h45)) rfl rfl rfl ?_
          refine AO.op (O.add rfl rfl rfl (by exact wI64 (by omega))) rfl rfl rfl ?_
          refine AO.op (O.fieldAddr rfl rfl) rfl rfl rfl ?_
          (refine AO.store (i := 0) rfl rfl rfl rfl rfl rfl (by rfl) (by rfl) (by rfl) (by (dsimp only [List.set, List.append, List.cons_append, List.nil_append, AV.cells, splice, List.take, List.drop, Nat.reduceAdd]; done)) (by (dsimp only [List.set, List.append, List.cons_append, List.nil_append, AV.cells, splice, List.take, List.drop, Nat.reduceAdd]; done)) ?_)
          refine AO.nil ?_
          refine AQ.thenN ?_
          refine AW.seq ?_
          refine AW.region ?_
          refine AO.op (O.fieldAddr rfl rfl) rfl rfl rfl ?_
          refine AO.op (O.load rfl rfl (by repeat (exact List.Mem.head _)) (by rfl)) rfl rfl rfl ?_
          refine AO.op (O.add rfl rfl rfl (by exact wI64 (by omega))) rfl rfl rfl ?_
          refine AO.op (O.fieldAddr rfl rfl) rfl rfl rfl ?_
          (refine AO.store (i := 0) rfl rfl rfl rfl rfl rfl (by rfl) (by rfl) (by rfl) (by (dsimp only [List.set, List.append, List.cons_append, List.nil_append, AV.cells, splice, List.take, List.drop, Nat.reduceAdd]; done)) (by (dsimp only [List.set, List.append, List.cons_append, List.nil_append, AV.cells, splice, List.take, List.drop, Nat.reduceAdd]; done)) ?_)
          refine AO.nil ?_
          refine AQ.thenN ?_
          refine AW.seq ?_
          refine AW.region ?_
          refine AO.op (O.move rfl rfl) rfl rfl rfl ?_
          refine AO.op (O.loadK rfl rfl (by repeat (exact List.Mem.head _)) (by rfl) (by rfl)) rfl rfl rfl ?_
          refine AO.opB (O.buildSlice rfl rfl rfl (by rfl) (by rfl) (by rfl) (by rfl)) rfl rfl rfl ?_
          intro B7
          refine AO.g ?_
          (refine G.freezeSl 0 61 rfl rfl ⟨Nat.le_refl _, by unfold maxLen; omega⟩ ?_)
          refine G.unfull 61 rfl ?_
          refine AO.u ?_
          dsimp only [List.eraseIdx]
          (refine AO.append' (i := 1) rfl rfl rfl rfl (by rfl) (by rfl) rfl rfl rfl (by exact SrcA.ro TyD.ax (by rfl) (Nat.le_of_ble_eq_true rfl)) (by rfl) (by (unfold maxLen; omega)) (by omega) (by (dsimp only [List.set, List.append, List.cons_append, List.nil_append, AV.cells, splice, List.take, List.drop, Nat.reduceAdd]; done)) (fun _ => by (dsimp only [List.set]; done)) ?_)
          intro V8 hV8
          refine AO.op (O.assign rfl rfl) rfl rfl rfl ?_
          refine AO.nil ?_
          refine AQ.thenN ?_
          refine AW.seq ?_
          refine AW.region ?_
          refine AO.op (O.fieldAddr rfl rfl) rfl rfl rfl ?_
          refine AO.op (O.loadK rfl rfl (by repeat (exact List.Mem.head _)) (by rfl) (by rfl)) rfl rfl rfl ?_
          refine AO.op (O.call rfl Try.func47 rfl rfl rfl (message_fn w.m hmm)) rfl rfl rfl ?_
          refine AO.op (O.fieldAddr rfl rfl) rfl rfl rfl ?_
          (refine AO.store (i := 0) rfl rfl rfl rfl rfl rfl (by rfl) (by rfl) (by rfl) (by (dsimp only [List.set, List.append, List.cons_append, List.nil_append, AV.cells, splice, List.take, List.drop, Nat.reduceAdd]; done)) (by (dsimp only [List.set, List.append, List.cons_append, List.nil_append, AV.cells, splice, List.take, List.drop, Nat.reduceAdd]; done)) ?_)
          refine AO.nil ?_
          refine AQ.thenN ?_
          refine AW.region ?_
          refine AO.op (O.move rfl rfl) rfl rfl rfl ?_
          refine AO.op (O.loadK rfl rfl (by repeat (exact List.Mem.head _)) (by rfl) (by rfl)) rfl rfl rfl ?_
          refine AO.opB (O.buildSlice rfl rfl rfl (by rfl) (by rfl) (by rfl) (by rfl)) rfl rfl rfl ?_
          intro B9
          refine AO.g ?_
          (refine G.freezeSl 0 69 rfl rfl ⟨Nat.le_refl _, by unfold maxLen; omega⟩ ?_)
          refine G.unfull 69 rfl ?_
          refine AO.u ?_
          dsimp only [List.eraseIdx]
          (refine AO.append' (i := 2) rfl rfl rfl rfl (by rfl) (by rfl) rfl rfl rfl (by exact SrcA.ro TyD.ax (by rfl) (Nat.le_of_ble_eq_true rfl)) (by rfl) (by (unfold maxLen; omega)) (by omega) (by (dsimp only [List.set, List.append, List.cons_append, List.nil_append, AV.cells, splice, List.take, List.drop, Nat.reduceAdd]; done)) (fun _ => by (dsimp only [List.set]; done)) ?_)
          intro V10 hV10
          refine AO.op (O.assign rfl rfl) rfl rfl rfl ?_
          refine AO.nil ?_
          refine AQ.blockN ?_
          refine AQ.blockN ?_
          refine AQ.thenN ?_
          refine AW.region ?_
          refine AO.op (O.add rfl rfl rfl (by exact wI64 (by omega))) rfl rfl rfl ?_
          refine AO.op (O.move rfl rfl) rfl rfl rfl ?_
          refine AO.nil ?_
          refine AQ.loopKN _ _ _ (by omega) (⟨k + 1, V8, V10, Vc, by omega, hV8, hV10, hVc, rfl, rfl, by rw [hs2, hs3, hs4, wtsA_snoc, wtsA_snoc, List.length_append, List.length_append]⟩) (by repeat (first | exact envNil | refine envCons rfl ?_)) (by repeat (first | exact envNil | refine envCons rfl ?_)) (by repeat (first | exact subPnil | refine subPcons 1 rfl ?_))
        · skip
          rw [stayF, if_neg (by omega), if_neg (by omega), Option.toList_none, List.append_nil] at hs2
          rw [againF, if_neg (by omega), if_neg (by omega), Option.toList_none, List.append_nil] at hs3
          rw [overF, if_neg (by omega), if_neg (by omega), Option.toList_some] at hs4
          refine AW.region ?_
          refine AO.op (O.move rfl rfl) rfl rfl rfl ?_
          refine AO.op (O.loadK rfl rfl (by repeat (exact List.Mem.head _)) (by rfl) (by rfl)) rfl rfl rfl ?_
          refine AO.opB (O.buildSlice rfl rfl rfl (by rfl) (by rfl) (by rfl) (by rfl)) rfl rfl rfl ?_
          intro B11
          refine AO.g ?_
          (refine G.freezeSl 0 34 rfl rfl ⟨Nat.le_refl _, by unfold maxLen; omega⟩ ?_)
          refine G.unfull 34 rfl ?_
          refine AO.u ?_
          dsimp only [List.eraseIdx]
          (refine AO.append' (i := 3) rfl rfl rfl rfl (by rfl) (by rfl) rfl rfl rfl (by exact SrcA.ro TyD.ax (by rfl) (Nat.le_of_ble_eq_true rfl)) (by rfl) (by (unfold maxLen; omega)) (by omega) (by (dsimp only [List.set, List.append, List.cons_append, List.nil_append, AV.cells, splice, List.take, List.drop, Nat.reduceAdd]; done)) (fun _ => by (dsimp only [List.set]; done)) ?_)
          intro V12 hV12
          refine AO.op (O.assign rfl rfl) rfl rfl rfl ?_
          refine AO.nil ?_
          refine AQ.blockN ?_
          refine AQ.blockN ?_
          refine AQ.thenN ?_
          refine AW.region ?_
          refine AO.op (O.add rfl rfl rfl (by exact wI64 (by omega))) rfl rfl rfl ?_
          refine AO.op (O.move rfl rfl) rfl rfl rfl ?_
          refine AO.nil ?_
          refine AQ.loopKN _ _ _ (by omega) (⟨k + 1, Va, Vb, _, by omega, hVa, hVb, ‹_›, rfl, rfl, by rw [hs2, hs3, hs4, wtsA_snoc, List.length_append]⟩) (by repeat (first | exact envNil | refine envCons rfl ?_)) (by repeat (first | exact envNil | refine envCons rfl ?_)) (by repeat (first | exact subPnil | refine subPcons 1 rfl ?_))
    · skip
      obtain rfl : k = e.out.length := by omega
      rw [List.take_length]
      refine AW.exit ?_
      refine AQ.thenX ?_
      refine AQ.loopX ?_
      refine AQ.blockX rfl ?_
      refine AQ.thenN ?_
      refine AW.seq ?_
      refine AW.region ?_
      refine AO.op (O.move rfl rfl) rfl rfl rfl ?_
      refine AO.op (O.fieldAddr rfl rfl) rfl rfl rfl ?_
      (refine AO.store (i := 6) rfl rfl rfl rfl rfl rfl (by (simp [AV.cells, AV.one, *]; done)) (by rfl) (by rfl) (by (dsimp only [List.set, List.append, List.cons_append, List.nil_append, AV.cells, splice, List.take, List.drop, Nat.reduceAdd]; done)) (by (dsimp only [List.set, List.append, List.cons_append, List.nil_append, AV.cells, splice, List.take, List.drop, Nat.reduceAdd]; done)) ?_)
      refine AO.nil ?_
      refine AQ.thenN ?_
      refine AW.seq ?_
      refine AW.region ?_
      refine AO.op (O.loadK rfl rfl (by repeat (first | exact List.Mem.head _ | refine List.Mem.tail _ ?_)) (by rfl) (by rfl)) rfl rfl rfl ?_
      refine AO.op (O.move rfl rfl) rfl rfl rfl ?_
      refine AO.op (O.move rfl rfl) rfl rfl rfl ?_
      (refine AO.store (i := 5) rfl rfl rfl rfl rfl rfl (by (simp [AV.cells, AV.one, roB, roI, roO, show ∀ k z, (Value.int k z).oneCell' = true from fun _ _ => rfl, show ∀ k, (Value.bool k).oneCell' = true from fun _ => rfl, *]; done)) (by rfl) (by rfl) (by (dsimp only [List.set, List.append, List.cons_append, List.nil_append, AV.cells, splice, List.take, List.drop, Nat.reduceAdd]; done)) (by (dsimp only [List.set, List.append, List.cons_append, List.nil_append, AV.cells, splice, List.take, List.drop, Nat.reduceAdd]; done)) ?_)
      refine AO.op (O.assign rfl rfl) rfl rfl rfl ?_
      refine AO.op (O.assign rfl rfl) rfl rfl rfl ?_
      refine AO.op (O.assign rfl rfl) rfl rfl rfl ?_
      refine AO.nil ?_
      refine AQ.thenN ?_
      refine AW.ret ?_
      refine AQ.g ?_
      refine G.freezeCell 0 4 1 rfl rfl rfl ?_
      refine AQ.u ?_
      dsimp only [List.eraseIdx, List.set]
      refine AQ.g ?_
      refine G.freezeCell 2 3 3 rfl rfl rfl ?_
      refine AQ.u ?_
      dsimp only [List.eraseIdx, List.set]
      refine AQ.g ?_
      refine G.freezeCell 2 2 2 rfl rfl rfl ?_
      refine AQ.u ?_
      dsimp only [List.eraseIdx, List.set]
      refine AQ.g ?_
      refine G.freezeRow 0 rfl [5] (by repeat (first | exact frNil | refine frCons rfl ?_)) ?_
      refine AQ.u ?_
      dsimp only [List.map, List.eraseIdx, List.cons_append, List.nil_append]
      refine AQ.g ?_
      refine G.freezeRow 0 rfl [6] (by repeat (first | exact frNil | refine frCons rfl ?_)) ?_
      refine AQ.u ?_
      dsimp only [List.map, List.eraseIdx, List.cons_append, List.nil_append]
      refine FnQ.coe (AQ.ret4G rfl (by exact ResAt.cell rfl (by repeat (exact List.Mem.head _)) (by (dsimp only [List.set, List.append, List.cons_append, List.nil_append, AV.cells, splice, List.take, List.drop, Nat.reduceAdd]; done)) (by rfl)) (by exact ResAt.tmp rfl) (by exact ResAt.tmp rfl) (by exact ResAt.tmp rfl) ⟨_, List.nil_sublist _, .nil⟩ ⟨rfl, rfl⟩) (Coe.tup (by (repeat (first | exact CoeL.nil | refine CoeL.cons Coe.rfl ?_)); done)) (ret4T e1 rfl)
end Go.Proofs.Ytdnmilmcdbgppaa.By

namespace Go.Proofs.Ytdnmilmcdbgppaa.By
open Go.RowKit L A
set_option linter.unusedVariables false
set_option maxRecDepth 20000
set_option linter.unusedSimpArgs false
attribute [local irreducible] AW AQ AO
theorem fi_some {α : Type} (p : α → Bool) (d : α) {l : List α} {k : Nat} (h : k < l.length) (hp : p (l.getD k d) = true) (hn : ∀ q, q < k → p (l.getD q d) = false) : l.findIdx? p = some k := by
  rw [List.findIdx?_eq_some_iff_getElem]
  have e : ∀ q (hq : q < l.length), l.getD q d = l[q] := fun q hq => by simp [hq]
  refine ⟨h, by rw [← e]; exact hp, fun q hq => ?_⟩
  rw [← e, hn q hq]; simp
theorem fi_none {α : Type} (p : α → Bool) (d : α) {l : List α} (hn : ∀ q, q < l.length → p (l.getD q d) = false) : l.findIdx? p = none := by
  rw [List.findIdx?_eq_none_iff]
  intro x hx
  obtain ⟨q, hq, rfl⟩ := List.getElem_of_mem hx
  have := hn q hq
  simpa [hq] using this
def hB (peer id : Int) (h : Hd) : Bool := h.peer == peer && h.id == id
def endR (c : Ep) (p : Int) (m : Msg) : Ep × Int × Msg × Int := match c.out.findIdx? (wB p m.id) with
  | some i => (⟨c.next, c.out.eraseIdx i, c.used, c.inn⟩, if m.ty = 3 then 4 else 3, Msg.none, 0)
  | none => (c, 5, Msg.none, 0)
theorem wts_cut (l : List Wt) {i n : Nat} (h : i < l.length) (hn : n = l.length - (i + 1)) {a b c : Nat} (ha : a = i * 9) (hb : b = (i + 1) * 9) (hc : c = n * 9) : (wtsA l).take a ++ ((wtsA l).drop b).take c = wtsA (l.eraseIdx i) := by
  subst ha hb hc
  rw [wtsA, flat_take cellsW_len, flat_drop cellsW_len, flat_take cellsW_len, List.take_of_length_le (l := l.drop (i + 1)) (by rw [List.length_drop]; omega), ← List.flatMap_append, ← List.eraseIdx_eq_take_drop_succ]
  rfl
theorem wts_cut0 (l : List Wt) {i : Nat} (h : i + 1 = l.length) {a : Nat} (ha : a = i * 9) : (wtsA l).take a ++ [] = wtsA (l.eraseIdx i) := by
  subst ha
  rw [wtsA, flat_take cellsW_len, List.eraseIdx_eq_take_drop_succ, List.drop_of_length_le (by omega), List.append_nil, List.append_nil]
  rfl
theorem rowEq {V : Value} {T k n n' : Nat} {xs xs' : List AV} (h1 : n = n') (h2 : xs = xs') : [HE.row V T k n xs] = [HE.row V T k n' xs'] := by subst h1 h2; rfl
/-- The caller's row of what waits is given along. -/
def EndP (c : Ep) (p : Int) (m : Msg) (x2 x3 : AV) : AV → List HE → Prop := fun r H' => ∃ V : Value, V.oneCell' = true ∧
  r = .tup [.agg [.val (.int .i64 c.next), .val V, x2, x3], .val (.int .i64 (endR c p m).2.1), aggM Msg.none, .val (.int .i64 0)] ∧ H' = [.row V 71 9 (endR c p m).1.out.length (wtsA (endR c p m).1.out)]
theorem retEnd {c : Ep} {p : Int} {m : Msg} {x2 x3 q : AV} {H' : List HE} {a : Ep} {k : Int} (V : Value) (hV : V.oneCell' = true) (h : endR c p m = (a, k, Msg.none, 0)) (hq : q = .tup [.agg [.val (.int .i64 c.next), .val V, x2, x3], .val (.int .i64 k), aggM Msg.none, .val (.int .i64 0)])
    (hH : H' = [.row V 71 9 a.out.length (wtsA a.out)]) : EndP c p m x2 x3 q H' := ⟨V, hV, by rw [h]; exact hq, by rw [h]; exact hH⟩
theorem one_dt {xs : List AV} (h : xs.all AV.one = true) (a b : Nat) : ((xs.drop a).take b).all AV.one = true := by
  rw [List.all_eq_true] at h ⊢
  exact fun x hx => h x (List.mem_of_mem_drop (List.mem_of_mem_take hx))
set_option maxHeartbeats 4000000 in
theorem ended_fn (c : Ep) (p : Int) (m : Msg) (V1 V2 V3 : Value) (h1 : V1.oneCell' = true) (h2 : V2.oneCell' = true) (h3 : V3.oneCell' = true) (hl : c.out.length ≤ 1000) : Sp Try.prog 53 [.agg [.val (.int .i64 c.next), .val V1, .val V2, .val V3], .val (.int .i64 p), aggM m] [.row V1 71 9 c.out.length (wtsA c.out)] (EndP c p m (.val V2) (.val V3)) := by
  refine Sp.enter Try.func53 rfl _ Try.ntmps53 rfl (fun w0 R0 => ?_)
  refine AW.seq ?_
  refine AW.region ?_
  refine AO.opB (O.box rfl rfl rfl rfl rfl) rfl rfl rfl ?_
  intro B1
  refine AO.opB (O.box rfl rfl rfl rfl rfl) rfl rfl rfl ?_
  intro B2
  refine AO.opB (O.alloc rfl (by (dsimp only [zerosA, List.replicate, List.append, List.flatten, AV.cells, Value.cells, List.toList_toArray, List.map]; done)) (by rfl)) rfl rfl rfl ?_
  intro B3
  refine AO.op (O.assign rfl rfl) rfl rfl rfl ?_
  refine AO.opB (O.alloc rfl (by (dsimp only [zerosA, List.replicate, List.append, List.flatten, AV.cells, Value.cells, List.toList_toArray, List.map]; done)) (by rfl)) rfl rfl rfl ?_
  intro B4
  refine AO.op (O.assign rfl rfl) rfl rfl rfl ?_
  refine AO.nil ?_
  refine AQ.thenN ?_
  refine AW.seq ?_
  refine AW.seq ?_
  refine AW.region ?_
  refine AO.op (O.fieldAddr rfl rfl) rfl rfl rfl ?_
  refine AO.op (O.load rfl rfl (by repeat (first | exact List.Mem.head _ | refine List.Mem.tail _ ?_)) (by rfl)) rfl rfl rfl ?_
  refine AO.op (O.lenRow rfl rfl (by repeat (first | exact List.Mem.head _ | refine List.Mem.tail _ ?_))) rfl rfl rfl ?_
  refine AO.op (O.move rfl rfl) rfl rfl rfl ?_
  refine AO.nil ?_
  refine AQ.thenN ?_
  refine AW.block ?_
  refine AW.loopK [(1, _), (3, _), (5, _), (6, _), (8, _), (13, _), (14, _)] (fun nn E H => ∃ (k : Nat), (k ≤ c.out.length) ∧ (∀ q, q < k → wB p m.id (wt c.out q) = false) ∧ nn = c.out.length - k ∧ E = [(15, .val (.int .i64 (k : Int)))] ∧ H = [.blk B4 31 6 [.val (.int .i64 0), .val (.int .i64 0), .val (.int .i64 0), .val nilS, .val nilS, .val nilS], .blk B3 26 4 [.val (.int .i64 0), .val nilS, .val nilS, .val nilS], .blk B2 31 6 [.val (.int .i64 m.ty), .val (.int .i64 m.code), .val (.int .i64 m.id), roB m.tok, roO m.opts, roB m.pay], .blk B1 26 4 [.val (.int .i64 c.next), .val V1, .val V2, .val V3], .row V1 71 9 c.out.length (wtsA c.out)]) _ (⟨0, by omega, fun q hq => absurd hq (by omega), rfl, rfl, rfl⟩) (by repeat (first | exact envNil | refine envCons rfl ?_)) (by repeat (first | exact envNil | refine envCons rfl ?_)) (by repeat (first | exact subPnil | refine subPcons 0 rfl ?_)) ?_
  rintro nn E H ⟨k, hk1, hn, rfl, rfl, rfl⟩
  dsimp only [List.cons_append, List.nil_append]
  refine AW.seq ?_
  refine AW.region ?_
  refine AO.op (O.lss rfl rfl rfl (by rfl)) rfl rfl rfl ?_
  refine AO.nil ?_
  refine AQ.thenN ?_
  refine AW.seq ?_
  refine AW.split rfl (fun hlt => ?_) (fun hlt => ?_) <;> (try simp only [decide_eq_true_eq, decide_eq_false_iff_not, beq_iff_eq, beq_eq_false_iff_ne, bne_iff_ne, bne_eq_false_iff_eq, Bool.not_eq_true', Bool.not_eq_false', Bool.not_eq_true, Bool.not_eq_false, ne_eq, Int.not_lt, Int.not_le, Bool.and_eq_true, Bool.or_eq_true, Bool.or_eq_false_iff, Bool.and_eq_false_imp, strOf_toList, Decidable.not_not] at hlt)
  · skip
    have hk : k < c.out.length := by omega
    have hgw : ((wtsA c.out).drop (0 + Int.toNat (k : Int) * 9)).take 9 = cW (wt c.out k) := by rw [Nat.zero_add]; exact getW hk (by omega)
    refine AW.g ?_
    refine G.openRow 4 rfl (by omega) (fun b cap hc1 hc2 hxs hVe => ?_)
    refine AW.u ?_
    subst hVe
    dsimp only [List.set]
    refine AW.skip ?_
    refine AQ.thenN ?_
    refine AW.seq ?_
    refine AW.block ?_
    refine AW.seq ?_
    refine AW.region ?_
    refine AO.op (O.move rfl rfl) rfl rfl rfl ?_
    refine AO.op (O.idxV rfl rfl rfl ⟨(by omega), (by omega)⟩) rfl rfl rfl ?_
    refine AO.op (O.loadK rfl rfl (by repeat (first | exact List.Mem.head _ | refine List.Mem.tail _ ?_)) (by exact hgw) (by rfl)) rfl rfl rfl ?_
    refine AO.opB (O.alloc rfl (by (dsimp only [zerosA, List.replicate, List.append, List.flatten, AV.cells, Value.cells, List.toList_toArray, List.map]; done)) (by rfl)) rfl rfl rfl ?_
    intro B5
    refine AO.op (O.assign rfl rfl) rfl rfl rfl ?_
    (refine AO.store (i := 0) rfl rfl rfl rfl rfl rfl (by rfl) (by rfl) (by rfl) (by (dsimp only [List.set, List.append, List.cons_append, List.nil_append, AV.cells, splice, List.take, List.drop, Nat.reduceAdd]; done)) (by (dsimp only [List.set, List.append, List.cons_append, List.nil_append, AV.cells, splice, List.take, List.drop, Nat.reduceAdd]; done)) ?_)
    refine AO.nil ?_
    refine AQ.thenN ?_
    refine AW.seq ?_
    refine AW.seq ?_
    refine AW.region ?_
    refine AO.op (O.fieldAddr rfl rfl) rfl rfl rfl ?_
    refine AO.op (O.load rfl rfl (by repeat (exact List.Mem.head _)) (by rfl)) rfl rfl rfl ?_
    refine AO.op (O.move rfl rfl) rfl rfl rfl ?_
    refine AO.op (O.neq rfl rfl rfl (by rfl)) rfl rfl rfl ?_
    refine AO.op (O.move rfl rfl) rfl rfl rfl ?_
    refine AO.opG rfl rfl rfl (fun hp => O.fieldAddr rfl rfl) ?_
    refine AO.opG rfl rfl rfl (fun hp => OpW.force 25 rfl (by exact hp) (O.fieldAddr rfl rfl)) ?_
    refine AO.opG rfl rfl rfl (fun hp => OpW.force 26 rfl (by exact hp) (O.load rfl rfl (by repeat (exact List.Mem.head _)) (by rfl))) ?_
    refine AO.opG rfl rfl rfl (fun hp => O.fieldAddr rfl rfl) ?_
    refine AO.opG rfl rfl rfl (fun hp => OpW.force 28 rfl (by exact hp) (O.load rfl rfl (by repeat (first | exact List.Mem.head _ | refine List.Mem.tail _ ?_)) (by rfl))) ?_
    refine AO.opG rfl rfl rfl (fun hp => OpW.force 27 rfl (by exact hp) (OpW.force 29 rfl (by exact hp) (O.neq rfl rfl rfl (by rfl)))) ?_
    refine AO.op (O.pickOr rfl rfl rfl rfl (fun h => by exact congrArg (fun b => !b) h)) rfl rfl rfl ?_
    refine AO.nil ?_
    refine AQ.thenN ?_
    refine AW.split rfl (fun h31 => ?_) (fun h31 => ?_) <;> (try simp only [decide_eq_true_eq, decide_eq_false_iff_not, beq_iff_eq, beq_eq_false_iff_ne, bne_iff_ne, bne_eq_false_iff_eq, Bool.not_eq_true', Bool.not_eq_false', Bool.not_eq_true, Bool.not_eq_false, ne_eq, Int.not_lt, Int.not_le, Bool.and_eq_true, Bool.or_eq_true, Bool.or_eq_false_iff, Bool.and_eq_false_imp, strOf_toList, Decidable.not_not] at h31)
    · skip
      refine AW.exit ?_
      refine AQ.thenX ?_
      refine AQ.blockX rfl ?_
      refine AQ.thenN ?_
      refine AW.region ?_
      refine AO.op (O.add rfl rfl rfl (by exact wI64 (by omega))) rfl rfl rfl ?_
      refine AO.op (O.move rfl rfl) rfl rfl rfl ?_
      refine AO.nil ?_
      refine AQ.g ?_
      refine G.closeRow (b := b) (sz := 9) (n := c.out.length) (cap := cap) 5 rfl hxs rfl hc1 hc2 ?_
      refine AQ.u ?_
      dsimp only [List.set]
      refine AQ.loopKN _ _ _ (by omega) (⟨k + 1, by omega, fun q hq => (Nat.lt_or_ge q k).elim (hn q) (fun h => by rw [show q = k by omega, wB, Bool.eq_false_iff, ne_eq, Bool.and_eq_true, beq_iff_eq, beq_iff_eq]; exact fun ⟨a, b⟩ => h31.elim (fun f => f a) (fun f => f b)), rfl, rfl, rfl⟩) (by repeat (first | exact envNil | refine envCons rfl ?_)) (by repeat (first | exact envNil | refine envCons rfl ?_)) (by repeat (first | exact subPnil | refine subPcons 1 rfl ?_))
    · skip
      have e0 := fi_some (wB p m.id) Wt.none hk (by rw [wB, Bool.and_eq_true, beq_iff_eq, beq_iff_eq]; exact h31) hn
      skip
      rcases Nat.lt_or_ge (k + 1) c.out.length with hlast | hlast
      · skip
        refine AW.skip ?_
        refine AQ.thenN ?_
        refine AW.seq ?_
        refine AW.regionD 9 (by kernel_rfl) (by kernel_rfl) ?_
        simp only [List.take_succ_cons, List.take_zero, List.drop_succ_cons, List.drop_zero]
        refine FA.op (O.fieldAddr rfl rfl) rfl rfl rfl rfl ?_
        refine FA.op (O.load rfl rfl (by repeat (first | exact List.Mem.head _ | refine List.Mem.tail _ ?_)) (by rfl)) rfl rfl rfl rfl ?_
        refine FA.op (O.move rfl rfl) rfl rfl rfl rfl ?_
        refine FA.op (O.sliceV rfl rfl rfl rfl ⟨by omega, by omega, by omega⟩ (by omega)) rfl rfl rfl rfl ?_
        refine FA.op (O.fieldAddr rfl rfl) rfl rfl rfl rfl ?_
        refine FA.op (O.load rfl rfl (by repeat (first | exact List.Mem.head _ | refine List.Mem.tail _ ?_)) (by rfl)) rfl rfl rfl rfl ?_
        refine FA.op (O.move rfl rfl) rfl rfl rfl rfl ?_
        refine FA.op (O.add rfl rfl rfl (by exact wI64 (by omega))) rfl rfl rfl rfl ?_
        refine FA.op (O.sliceV rfl rfl rfl rfl ⟨by omega, by omega, by omega⟩ (by omega)) rfl rfl rfl rfl ?_
        refine FA.nil ?_
        simp only [chosen, List.nil_append, List.cons_append, List.append_nil]
        (refine AO.appendCut (i := 5) rfl rfl rfl rfl (by rfl) (by rfl) rfl rfl rfl (by omega) (by exact SrcA.blk TyD.ax (by repeat (first | exact List.Mem.head _ | refine List.Mem.tail _ ?_)) (by (dsimp only [List.set, List.append, List.cons_append, List.nil_append, AV.cells, splice, List.take, List.drop, Nat.reduceAdd]; done)) (by (simp; omega))) (by exact one_dt (wtsA_one _) _ _) (by (unfold maxLen; omega)) (by omega) ⟨by omega, by assumption⟩ (by (dsimp only [List.set, List.append, List.cons_append, List.nil_append, AV.cells, splice, List.take, List.drop, Nat.reduceAdd]; done)) (fun _ => by (dsimp only [List.set]; done)) ?_)
        intro V6 hV6
        refine AO.op (O.fieldAddr rfl rfl) rfl rfl rfl ?_
        (refine AO.store (i := 4) rfl rfl rfl rfl rfl rfl (by (simp [AV.cells, AV.one, *]; done)) (by rfl) (by rfl) (by (dsimp only [List.set, List.append, List.cons_append, List.nil_append, AV.cells, splice, List.take, List.drop, Nat.reduceAdd]; done)) (by (dsimp only [List.set, List.append, List.cons_append, List.nil_append, AV.cells, splice, List.take, List.drop, Nat.reduceAdd]; done)) ?_)
        refine AO.nil ?_
        refine AQ.thenN ?_
        refine AW.seq ?_
        refine AW.seq ?_
        refine AW.region ?_
        refine AO.op (O.fieldAddr rfl rfl) rfl rfl rfl ?_
        refine AO.op (O.load rfl rfl (by repeat (first | exact List.Mem.head _ | refine List.Mem.tail _ ?_)) (by rfl)) rfl rfl rfl ?_
        refine AO.op (O.eql rfl rfl rfl (by rfl)) rfl rfl rfl ?_
        refine AO.nil ?_
        refine AQ.thenN ?_
        refine AW.split rfl (fun h45 => ?_) (fun h45 => ?_) <;> (try simp only [decide_eq_true_eq, decide_eq_false_iff_not, beq_iff_eq, beq_eq_false_iff_ne, bne_iff_ne, bne_eq_false_iff_eq, Bool.not_eq_true', Bool.not_eq_false', Bool.not_eq_true, Bool.not_eq_false, ne_eq, Int.not_lt, Int.not_le, Bool.and_eq_true, Bool.or_eq_true, Bool.or_eq_false_iff, Bool.and_eq_false_imp, strOf_toList, Decidable.not_not] at h45)
        · skip
          have e1 : endR c p m = (⟨c.next, c.out.eraseIdx k, c.used, c.inn⟩, 4, Msg.none, 0) := by rw [endR, e0]; show (_, (if m.ty = 3 then (4 : Int) else 3), _, _) = _; rw [if_pos h45]
          refine AW.seq ?_
          refine AW.region ?_
          refine AO.op (O.loadK rfl rfl (by repeat (first | exact List.Mem.head _ | refine List.Mem.tail _ ?_)) (by rfl) (by rfl)) rfl rfl rfl ?_
          refine AO.op (O.build rfl rfl rfl (by rfl)) rfl rfl rfl ?_
          (refine AO.store (i := 2) rfl rfl rfl rfl rfl rfl (by (simp [AV.cells, AV.one, roB, roI, roO, show ∀ k z, (Value.int k z).oneCell' = true from fun _ _ => rfl, show ∀ k, (Value.bool k).oneCell' = true from fun _ => rfl, *]; done)) (by rfl) (by rfl) (by (dsimp only [List.set, List.append, List.cons_append, List.nil_append, AV.cells, splice, List.take, List.drop, Nat.reduceAdd]; done)) (by (dsimp only [List.set, List.append, List.cons_append, List.nil_append, AV.cells, splice, List.take, List.drop, Nat.reduceAdd]; done)) ?_)
          refine AO.op (O.assign rfl rfl) rfl rfl rfl ?_
          (refine AO.store (i := 1) rfl rfl rfl rfl rfl rfl (by rfl) (by rfl) (by rfl) (by (dsimp only [List.set, List.append, List.cons_append, List.nil_append, AV.cells, splice, List.take, List.drop, Nat.reduceAdd]; done)) (by (dsimp only [List.set, List.append, List.cons_append, List.nil_append, AV.cells, splice, List.take, List.drop, Nat.reduceAdd]; done)) ?_)
          refine AO.op (O.assign rfl rfl) rfl rfl rfl ?_
          refine AO.nil ?_
          refine AQ.thenN ?_
          refine AW.ret ?_
          refine AQ.thenR ?_
          refine AQ.blockR ?_
          refine AQ.thenR ?_
          refine AQ.loopR ?_
          refine AQ.blockR ?_
          refine AQ.thenR ?_
          refine FnQ.coe (AQ.ret4G rfl (by exact ResAt.cell rfl (by repeat (first | exact List.Mem.head _ | refine List.Mem.tail _ ?_)) (by (dsimp only [List.set, List.append, List.cons_append, List.nil_append, AV.cells, splice, List.take, List.drop, Nat.reduceAdd]; done)) (by rfl)) (by exact ResAt.tmp rfl) (by exact ResAt.cell rfl (by repeat (first | exact List.Mem.head _ | refine List.Mem.tail _ ?_)) (by (dsimp only [List.set, List.append, List.cons_append, List.nil_append, AV.cells, splice, List.take, List.drop, Nat.reduceAdd]; done)) (by rfl)) (by exact ResAt.tmp rfl) ⟨_, by repeat (first | exact List.Sublist.slnil | refine List.Sublist.cons_cons _ ?_ | refine List.Sublist.cons _ ?_), List.Perm.refl _⟩ ⟨rfl, rfl⟩) (Coe.tup (by (repeat (first | exact CoeL.nil | refine CoeL.cons Coe.rfl ?_ | refine CoeL.cons Coe.nil ?_ | refine CoeL.cons (Coe.agg ?_) ?_)); done)) (retEnd V6 hV6 e1 rfl (rowEq (by simp only [List.length_eraseIdx, if_pos hk]; omega) (wts_cut c.out hk (n := (Int.toNat (c.out.length : Int)) - Int.toNat ((k : Int) + 1)) (by omega) (by omega) (by omega) (by omega))))
        · skip
          have e1 : endR c p m = (⟨c.next, c.out.eraseIdx k, c.used, c.inn⟩, 3, Msg.none, 0) := by rw [endR, e0]; show (_, (if m.ty = 3 then (4 : Int) else 3), _, _) = _; rw [if_neg h45]
          refine AW.skip ?_
          refine AQ.thenN ?_
          refine AW.seq ?_
          refine AW.region ?_
          refine AO.op (O.loadK rfl rfl (by repeat (first | exact List.Mem.head _ | refine List.Mem.tail _ ?_)) (by rfl) (by rfl)) rfl rfl rfl ?_
          refine AO.op (O.build rfl rfl rfl (by rfl)) rfl rfl rfl ?_
          (refine AO.store (i := 2) rfl rfl rfl rfl rfl rfl (by (simp [AV.cells, AV.one, roB, roI, roO, show ∀ k z, (Value.int k z).oneCell' = true from fun _ _ => rfl, show ∀ k, (Value.bool k).oneCell' = true from fun _ => rfl, *]; done)) (by rfl) (by rfl) (by (dsimp only [List.set, List.append, List.cons_append, List.nil_append, AV.cells, splice, List.take, List.drop, Nat.reduceAdd]; done)) (by (dsimp only [List.set, List.append, List.cons_append, List.nil_append, AV.cells, splice, List.take, List.drop, Nat.reduceAdd]; done)) ?_)
          refine AO.op (O.assign rfl rfl) rfl rfl rfl ?_
          (refine AO.store (i := 1) rfl rfl rfl rfl rfl rfl (by rfl) (by rfl) (by rfl) (by (dsimp only [List.set, List.append, List.cons_append, List.nil_append, AV.cells, splice, List.take, List.drop, Nat.reduceAdd]; done)) (by (dsimp only [List.set, List.append, List.cons_append, List.nil_append, AV.cells, splice, List.take, List.drop, Nat.reduceAdd]; done)) ?_)
          refine AO.op (O.assign rfl rfl) rfl rfl rfl ?_
          refine AO.nil ?_
          refine AQ.thenN ?_
          refine AW.ret ?_
          refine AQ.blockR ?_
          refine AQ.thenR ?_
          refine AQ.loopR ?_
          refine AQ.blockR ?_
          refine AQ.thenR ?_
          refine FnQ.coe (AQ.ret4G rfl (by exact ResAt.cell rfl (by repeat (first | exact List.Mem.head _ | refine List.Mem.tail _ ?_)) (by (dsimp only [List.set, List.append, List.cons_append, List.nil_append, AV.cells, splice, List.take, List.drop, Nat.reduceAdd]; done)) (by rfl)) (by exact ResAt.tmp rfl) (by exact ResAt.cell rfl (by repeat (first | exact List.Mem.head _ | refine List.Mem.tail _ ?_)) (by (dsimp only [List.set, List.append, List.cons_append, List.nil_append, AV.cells, splice, List.take, List.drop, Nat.reduceAdd]; done)) (by rfl)) (by exact ResAt.tmp rfl) ⟨_, by repeat (first | exact List.Sublist.slnil | refine List.Sublist.cons_cons _ ?_ | refine List.Sublist.cons _ ?_), List.Perm.refl _⟩ ⟨rfl, rfl⟩) (Coe.tup (by (repeat (first | exact CoeL.nil | refine CoeL.cons Coe.rfl ?_ | refine CoeL.cons Coe.nil ?_ | refine CoeL.cons (Coe.agg ?_) ?_)); done)) (retEnd V6 hV6 e1 rfl (rowEq (by simp only [List.length_eraseIdx, if_pos hk]; omega) (wts_cut c.out hk (n := (Int.toNat (c.out.length : Int)) - Int.toNat ((k : Int) + 1)) (by omega) (by omega) (by omega) (by omega))))
      · skip
        refine AW.skip ?_
        refine AQ.thenN ?_
        refine AW.seq ?_
        refine AW.regionD 9 (by kernel_rfl) (by kernel_rfl) ?_
        simp only [List.take_succ_cons, List.take_zero, List.drop_succ_cons, List.drop_zero]
        refine FA.op (O.fieldAddr rfl rfl) rfl rfl rfl rfl ?_
        refine FA.op (O.load rfl rfl (by repeat (first | exact List.Mem.head _ | refine List.Mem.tail _ ?_)) (by rfl)) rfl rfl rfl rfl ?_
        refine FA.op (O.move rfl rfl) rfl rfl rfl rfl ?_
        refine FA.op (O.sliceV rfl rfl rfl rfl ⟨by omega, by omega, by omega⟩ (by omega)) rfl rfl rfl rfl ?_
        refine FA.op (O.fieldAddr rfl rfl) rfl rfl rfl rfl ?_
        refine FA.op (O.load rfl rfl (by repeat (first | exact List.Mem.head _ | refine List.Mem.tail _ ?_)) (by rfl)) rfl rfl rfl rfl ?_
        refine FA.op (O.move rfl rfl) rfl rfl rfl rfl ?_
        refine FA.op (O.add rfl rfl rfl (by exact wI64 (by omega))) rfl rfl rfl rfl ?_
        refine FA.op (O.sliceV0 rfl rfl rfl rfl ⟨by omega, by omega, by omega⟩ (by omega) (by assumption)) rfl rfl rfl rfl ?_
        refine FA.nil ?_
        simp only [chosen, List.nil_append, List.cons_append, List.append_nil]
        (refine AO.appendCut (i := 5) rfl rfl rfl rfl (by rfl) (by rfl) rfl rfl rfl (by omega) (by exact SrcA.ro TyD.ax (by rfl) (Nat.le_of_ble_eq_true rfl)) (by rfl) (by (unfold maxLen; omega)) (by omega) ⟨by omega, by assumption⟩ (by (dsimp only [List.set, List.append, List.cons_append, List.nil_append, AV.cells, splice, List.take, List.drop, Nat.reduceAdd]; done)) (fun _ => by (dsimp only [List.set]; done)) ?_)
        intro V6 hV6
        refine AO.op (O.fieldAddr rfl rfl) rfl rfl rfl ?_
        (refine AO.store (i := 4) rfl rfl rfl rfl rfl rfl (by (simp [AV.cells, AV.one, *]; done)) (by rfl) (by rfl) (by (dsimp only [List.set, List.append, List.cons_append, List.nil_append, AV.cells, splice, List.take, List.drop, Nat.reduceAdd]; done)) (by (dsimp only [List.set, List.append, List.cons_append, List.nil_append, AV.cells, splice, List.take, List.drop, Nat.reduceAdd]; done)) ?_)
        refine AO.nil ?_
        refine AQ.thenN ?_
        refine AW.seq ?_
        refine AW.seq ?_
        refine AW.region ?_
        refine AO.op (O.fieldAddr rfl rfl) rfl rfl rfl ?_
        refine AO.op (O.load rfl rfl (by repeat (first | exact List.Mem.head _ | refine List.Mem.tail _ ?_)) (by rfl)) rfl rfl rfl ?_
        refine AO.op (O.eql rfl rfl rfl (by rfl)) rfl rfl rfl ?_
        refine AO.nil ?_
        refine AQ.thenN ?_
        refine AW.split rfl (fun h45 => ?_) (fun h45 => ?_) <;> (try simp only [decide_eq_true_eq, decide_eq_false_iff_not, beq_iff_eq, beq_eq_false_iff_ne, bne_iff_ne, bne_eq_false_iff_eq, Bool.not_eq_true', Bool.not_eq_false', Bool.not_eq_true, Bool.not_eq_false, ne_eq, Int.not_lt, Int.not_le, Bool.and_eq_true, Bool.or_eq_true, Bool.or_eq_false_iff, Bool.and_eq_false_imp, strOf_toList, Decidable.not_not] at h45)
        · skip
          have e1 : endR c p m = (⟨c.next, c.out.eraseIdx k, c.used, c.inn⟩, 4, Msg.none, 0) := by rw [endR, e0]; show (_, (if m.ty = 3 then (4 : Int) else 3), _, _) = _; rw [if_pos h45]
          refine AW.seq ?_
          refine AW.region ?_
          refine AO.op (O.loadK rfl rfl (by repeat (first | exact List.Mem.head _ | refine List.Mem.tail _ ?_)) (by rfl) (by rfl)) rfl rfl rfl ?_
          refine AO.op (O.build rfl rfl rfl (by rfl)) rfl rfl rfl ?_
          (refine AO.store (i := 2) rfl rfl rfl rfl rfl rfl (by (simp [AV.cells, AV.one, roB, roI, roO, show ∀ k z, (Value.int k z).oneCell' = true from fun _ _ => rfl, show ∀ k, (Value.bool k).oneCell' = true from fun _ => rfl, *]; done)) (by rfl) (by rfl) (by (dsimp only [List.set, List.append, List.cons_append, List.nil_append, AV.cells, splice, List.take, List.drop, Nat.reduceAdd]; done)) (by (dsimp only [List.set, List.append, List.cons_append, List.nil_append, AV.cells, splice, List.take, List.drop, Nat.reduceAdd]; done)) ?_)
          refine AO.op (O.assign rfl rfl) rfl rfl rfl ?_
          (refine AO.store (i := 1) rfl rfl rfl rfl rfl rfl (by rfl) (by rfl) (by rfl) (by (dsimp only [List.set, List.append, List.cons_append, List.nil_append, AV.cells, splice, List.take, List.drop, Nat.reduceAdd]; done)) (by (dsimp only [List.set, List.append, List.cons_append, List.nil_append, AV.cells, splice, List.take, List.drop, Nat.reduceAdd]; done)) ?_)
          refine AO.op (O.assign rfl rfl) rfl rfl rfl ?_
          refine AO.nil ?_
          refine AQ.thenN ?_
          refine AW.ret ?_
          refine AQ.thenR ?_
          refine AQ.blockR ?_
          refine AQ.thenR ?_
          refine AQ.loopR ?_
          refine AQ.blockR ?_
          refine AQ.thenR ?_
          refine FnQ.coe (AQ.ret4G rfl (by exact ResAt.cell rfl (by repeat (first | exact List.Mem.head _ | refine List.Mem.tail _ ?_)) (by (dsimp only [List.set, List.append, List.cons_append, List.nil_append, AV.cells, splice, List.take, List.drop, Nat.reduceAdd]; done)) (by rfl)) (by exact ResAt.tmp rfl) (by exact ResAt.cell rfl (by repeat (first | exact List.Mem.head _ | refine List.Mem.tail _ ?_)) (by (dsimp only [List.set, List.append, List.cons_append, List.nil_append, AV.cells, splice, List.take, List.drop, Nat.reduceAdd]; done)) (by rfl)) (by exact ResAt.tmp rfl) ⟨_, by repeat (first | exact List.Sublist.slnil | refine List.Sublist.cons_cons _ ?_ | refine List.Sublist.cons _ ?_), List.Perm.refl _⟩ ⟨rfl, rfl⟩) (Coe.tup (by (repeat (first | exact CoeL.nil | refine CoeL.cons Coe.rfl ?_ | refine CoeL.cons Coe.nil ?_ | refine CoeL.cons (Coe.agg ?_) ?_)); done)) (retEnd V6 hV6 e1 rfl (rowEq (by simp only [List.length_eraseIdx, if_pos hk]; omega) (wts_cut0 c.out (by omega) (by omega))))
        · skip
          have e1 : endR c p m = (⟨c.next, c.out.eraseIdx k, c.used, c.inn⟩, 3, Msg.none, 0) := by rw [endR, e0]; show (_, (if m.ty = 3 then (4 : Int) else 3), _, _) = _; rw [if_neg h45]
          refine AW.skip ?_
          refine AQ.thenN ?_
          refine AW.seq ?_
          refine AW.region ?_
          refine AO.op (O.loadK rfl rfl (by repeat (first | exact List.Mem.head _ | refine List.Mem.tail _ ?_)) (by rfl) (by rfl)) rfl rfl rfl ?_
          refine AO.op (O.build rfl rfl rfl (by rfl)) rfl rfl rfl ?_
          (refine AO.store (i := 2) rfl rfl rfl rfl rfl rfl (by (simp [AV.cells, AV.one, roB, roI, roO, show ∀ k z, (Value.int k z).oneCell' = true from fun _ _ => rfl, show ∀ k, (Value.bool k).oneCell' = true from fun _ => rfl, *]; done)) (by rfl) (by rfl) (by (dsimp only [List.set, List.append, List.cons_append, List.nil_append, AV.cells, splice, List.take, List.drop, Nat.reduceAdd]; done)) (by (dsimp only [List.set, List.append, List.cons_append, List.nil_append, AV.cells, splice, List.take, List.drop, Nat.reduceAdd]; done)) ?_)
          refine AO.op (O.assign rfl rfl) rfl rfl rfl ?_
          (refine AO.store (i := 1) rfl rfl rfl rfl rfl rfl (by rfl) (by rfl) (by rfl) (by (dsimp only [List.set, List.append, List.cons_append, List.nil_append, AV.cells, splice, List.take, List.drop, Nat.reduceAdd]; done)) (by (dsimp only [List.set, List.append, List.cons_append, List.nil_append, AV.cells, splice, List.take, List.drop, Nat.reduceAdd]; done)) ?_)
          refine AO.op (O.assign rfl rfl) rfl rfl rfl ?_
          refine AO.nil ?_
          refine AQ.thenN ?_
          refine AW.ret ?_
          refine AQ.blockR ?_
          refine AQ.thenR ?_
          refine AQ.loopR ?_
          refine AQ.blockR ?_
          refine AQ.thenR ?_
          refine FnQ.coe (AQ.ret4G rfl (by exact ResAt.cell rfl (by repeat (first | exact List.Mem.head _ | refine List.Mem.tail _ ?_)) (by (dsimp only [List.set, List.append, List.cons_append, List.nil_append, AV.cells, splice, List.take, List.drop, Nat.reduceAdd]; done)) (by rfl)) (by exact ResAt.tmp rfl) (by exact ResAt.cell rfl (by repeat (first | exact List.Mem.head _ | refine List.Mem.tail _ ?_)) (by (dsimp only [List.set, List.append, List.cons_append, List.nil_append, AV.cells, splice, List.take, List.drop, Nat.reduceAdd]; done)) (by rfl)) (by exact ResAt.tmp rfl) ⟨_, by repeat (first | exact List.Sublist.slnil | refine List.Sublist.cons_cons _ ?_ | refine List.Sublist.cons _ ?_), List.Perm.refl _⟩ ⟨rfl, rfl⟩) (Coe.tup (by (repeat (first | exact CoeL.nil | refine CoeL.cons Coe.rfl ?_ | refine CoeL.cons Coe.nil ?_ | refine CoeL.cons (Coe.agg ?_) ?_)); done)) (retEnd V6 hV6 e1 rfl (rowEq (by simp only [List.length_eraseIdx, if_pos hk]; omega) (wts_cut0 c.out (by omega) (by omega))))
      skip
  · skip
    obtain rfl : k = c.out.length := by omega
    have e1 : endR c p m = (c, 5, Msg.none, 0) := by rw [endR, fi_none _ Wt.none hn]
    refine AW.exit ?_
    refine AQ.thenX ?_
    refine AQ.loopX ?_
    refine AQ.blockX rfl ?_
    refine AQ.thenN ?_
    refine AW.seq ?_
    refine AW.region ?_
    refine AO.op (O.loadK rfl rfl (by repeat (first | exact List.Mem.head _ | refine List.Mem.tail _ ?_)) (by rfl) (by rfl)) rfl rfl rfl ?_
    refine AO.op (O.build rfl rfl rfl (by rfl)) rfl rfl rfl ?_
    (refine AO.store (i := 1) rfl rfl rfl rfl rfl rfl (by (simp [AV.cells, AV.one, roB, roI, roO, show ∀ k z, (Value.int k z).oneCell' = true from fun _ _ => rfl, show ∀ k, (Value.bool k).oneCell' = true from fun _ => rfl, *]; done)) (by rfl) (by rfl) (by (dsimp only [List.set, List.append, List.cons_append, List.nil_append, AV.cells, splice, List.take, List.drop, Nat.reduceAdd]; done)) (by (dsimp only [List.set, List.append, List.cons_append, List.nil_append, AV.cells, splice, List.take, List.drop, Nat.reduceAdd]; done)) ?_)
    refine AO.op (O.assign rfl rfl) rfl rfl rfl ?_
    (refine AO.store (i := 0) rfl rfl rfl rfl rfl rfl (by rfl) (by rfl) (by rfl) (by (dsimp only [List.set, List.append, List.cons_append, List.nil_append, AV.cells, splice, List.take, List.drop, Nat.reduceAdd]; done)) (by (dsimp only [List.set, List.append, List.cons_append, List.nil_append, AV.cells, splice, List.take, List.drop, Nat.reduceAdd]; done)) ?_)
    refine AO.op (O.assign rfl rfl) rfl rfl rfl ?_
    refine AO.nil ?_
    refine AQ.thenN ?_
    refine AW.ret ?_
    refine FnQ.coe (AQ.ret4G rfl (by exact ResAt.cell rfl (by repeat (first | exact List.Mem.head _ | refine List.Mem.tail _ ?_)) (by (dsimp only [List.set, List.append, List.cons_append, List.nil_append, AV.cells, splice, List.take, List.drop, Nat.reduceAdd]; done)) (by rfl)) (by exact ResAt.tmp rfl) (by exact ResAt.cell rfl (by repeat (exact List.Mem.head _)) (by (dsimp only [List.set, List.append, List.cons_append, List.nil_append, AV.cells, splice, List.take, List.drop, Nat.reduceAdd]; done)) (by rfl)) (by exact ResAt.tmp rfl) ⟨_, by repeat (first | exact List.Sublist.slnil | refine List.Sublist.cons_cons _ ?_ | refine List.Sublist.cons _ ?_), List.Perm.refl _⟩ ⟨rfl, rfl⟩) (Coe.tup (by (repeat (first | exact CoeL.nil | refine CoeL.cons Coe.rfl ?_ | refine CoeL.cons Coe.nil ?_ | refine CoeL.cons (Coe.agg ?_) ?_)); done)) (retEnd V1 h1 e1 rfl rfl)
end Go.Proofs.Ytdnmilmcdbgppaa.By

namespace Go.Proofs.Ytdnmilmcdbgppaa.By
open Go.RowKit L A
set_option linter.unusedVariables false
set_option maxRecDepth 20000
set_option linter.unusedSimpArgs false
attribute [local irreducible] AW AQ AO
abbrev RecvOk (e : Ep) (p : Int) (m : Msg) (now : Int) : Prop := ValE e ∧ TimeOk now ∧ PeerOk p ∧ ValM m
def gotR (c : Ep) (p : Int) (m : Msg) (now : Int) : Ep × Int × Msg × Int := match c.inn.findIdx? (hB p m.id) with
  | some i => (c, 2, (hd c.inn i).m, 0)
  | none => if 16 ≤ c.inn.length then (c, 6, Msg.none, 0) else (⟨c.next, c.out, c.used, c.inn ++ [⟨p, m.id, now + 128, false, Msg.none⟩]⟩, 1, Msg.none, 0)
def recvR (e : Ep) (p : Int) (m : Msg) (now : Int) : Ep × Int × Msg × Int :=
  if RecvOk e p m now then
    if m.ty = 2 ∨ m.ty = 3 then endR (cleanE e now) p m
    else if m.code = 0 then (cleanE e now, 5, if m.ty = 0 then ⟨3, 0, m.id, [], [], []⟩ else Msg.none, 0)
    else gotR (cleanE e now) p m now
  else (Ep.none, 0, Msg.none, 1)
theorem endR_shape (c : Ep) (p : Int) (m : Msg) : endR c p m = (⟨c.next, (endR c p m).1.out, c.used, c.inn⟩, (endR c p m).2.1, Msg.none, 0) := by
  unfold endR
  cases c.out.findIdx? (wB p m.id) <;> rfl
abbrev resV (r : Ep × Int × Msg × Int) : AV := .tup [aggE r.1, .val (.int .i64 r.2.1), aggM r.2.2.1, .val (.int .i64 r.2.2.2)]
theorem ret4V {q : AV} {r : Ep × Int × Msg × Int} {a : Ep} {b : Int} {c : Msg} {d : Int} (h : r = (a, b, c, d)) (hq : q = .tup [aggE a, .val (.int .i64 b), aggM c, .val (.int .i64 d)]) : Is (resV r) q [] := by subst h; exact ⟨hq, rfl⟩
set_option maxHeartbeats 4000000 in
theorem recv_fn (e : Ep) (p : Int) (m : Msg) (now : Int) (hb : BdE e) : Sp Try.prog 26 [aggE e, .val (.int .i64 p), aggM m, .val (.int .i64 now)] [] (Is (resV (recvR e p m now))) := by
  refine Sp.enter Try.func26 rfl _ Try.ntmps26 rfl (fun w0 R0 => ?_)
  refine AW.seq ?_
  refine AW.region ?_
  refine AO.opB (O.box rfl rfl rfl rfl rfl) rfl rfl rfl ?_
  intro B1
  refine AO.opB (O.box rfl rfl rfl rfl rfl) rfl rfl rfl ?_
  intro B2
  refine AO.opB (O.alloc rfl (by (dsimp only [zerosA, List.replicate, List.append, List.flatten, AV.cells, Value.cells, List.toList_toArray, List.map]; done)) (by rfl)) rfl rfl rfl ?_
  intro B3
  refine AO.op (O.assign rfl rfl) rfl rfl rfl ?_
  refine AO.opB (O.alloc rfl (by (dsimp only [zerosA, List.replicate, List.append, List.flatten, AV.cells, Value.cells, List.toList_toArray, List.map]; done)) (by rfl)) rfl rfl rfl ?_
  intro B4
  refine AO.op (O.assign rfl rfl) rfl rfl rfl ?_
  refine AO.nil ?_
  refine AQ.thenN ?_
  refine AW.seq ?_
  refine AW.seq ?_
  refine AW.region ?_
  (refine AO.op (O.loadK rfl rfl (by repeat (first | exact List.Mem.head _ | refine List.Mem.tail _ ?_)) (by (dsimp only [List.set, List.append, List.cons_append, List.nil_append, AV.cells, splice, List.take, List.drop, Nat.reduceAdd]; done)) (by rfl)) rfl rfl rfl ?_)
  refine AO.op (O.call rfl Try.func15 rfl rfl rfl (evalid_fn e hb)) rfl rfl rfl ?_
  refine AO.op (O.not rfl rfl (by rfl)) rfl rfl rfl ?_
  refine AO.op (O.move rfl rfl) rfl rfl rfl ?_
  refine AO.opG rfl rfl rfl (fun hp => O.move rfl rfl) ?_
  refine AO.opG rfl rfl rfl (fun hp => OpW.force 19 rfl (by exact hp) (O.call rfl Try.func43 rfl rfl rfl (timeOK_fn _))) ?_
  refine AO.opG rfl rfl rfl (fun hp => OpW.force 20 rfl (by exact hp) (O.not rfl rfl (by rfl))) ?_
  refine AO.op (O.pickOr rfl rfl rfl rfl (fun h => by exact congrArg (fun b => !b) h)) rfl rfl rfl ?_
  refine AO.op (O.move rfl rfl) rfl rfl rfl ?_
  refine AO.opG rfl rfl rfl (fun hp => O.move rfl rfl) ?_
  refine AO.opG rfl rfl rfl (fun hp => OpW.force 24 rfl (by exact hp) (O.call rfl Try.func37 rfl rfl rfl (peerOK_fn _))) ?_
  refine AO.opG rfl rfl rfl (fun hp => OpW.force 25 rfl (by exact hp) (O.not rfl rfl (by rfl))) ?_
  refine AO.op (O.pickOr rfl rfl rfl rfl (fun h => by exact congrArg (fun b => !b) h)) rfl rfl rfl ?_
  refine AO.op (O.move rfl rfl) rfl rfl rfl ?_
  (refine AO.opG rfl rfl rfl (fun hp => O.loadK rfl rfl (by repeat (first | exact List.Mem.head _ | refine List.Mem.tail _ ?_)) (by (dsimp only [List.set, List.append, List.cons_append, List.nil_append, AV.cells, splice, List.take, List.drop, Nat.reduceAdd]; done)) (by rfl)) ?_)
  refine AO.opG rfl rfl rfl (fun hp => OpW.force 29 rfl (by exact hp) (O.call rfl Try.func44 rfl rfl rfl (valid_fn m))) ?_
  refine AO.opG rfl rfl rfl (fun hp => OpW.force 30 rfl (by exact hp) (O.not rfl rfl (by rfl))) ?_
  refine AO.op (O.pickOr rfl rfl rfl rfl (fun h => by exact congrArg (fun b => !b) h)) rfl rfl rfl ?_
  refine AO.nil ?_
  refine AQ.thenN ?_
  refine AW.split rfl (fun h => ?_) (fun h => ?_) <;> (try simp only [decide_eq_true_eq, decide_eq_false_iff_not, beq_iff_eq, beq_eq_false_iff_ne, bne_iff_ne, bne_eq_false_iff_eq, Bool.not_eq_true', Bool.not_eq_false', Bool.not_eq_true, Bool.not_eq_false, ne_eq, Int.not_lt, Int.not_le, Bool.and_eq_true, Bool.or_eq_true, Bool.or_eq_false_iff, Bool.and_eq_false_imp, strOf_toList, Decidable.not_not] at h)
  · skip
    have e1 : recvR e p m now = (Ep.none, 0, Msg.none, 1) := if_neg (by
      rintro ⟨h1, h2, h3, h4⟩
      rcases h with ((h | h) | h) | h
      · exact h h1
      · exact h h2
      · exact h h3
      · exact h h4)
    refine AW.seq ?_
    refine AW.region ?_
    refine AO.op (O.build rfl rfl rfl (by rfl)) rfl rfl rfl ?_
    refine AO.op (O.build rfl rfl rfl (by rfl)) rfl rfl rfl ?_
    (refine AO.store (i := 1) rfl rfl rfl rfl rfl rfl (by rfl) (by rfl) (by rfl) (by (dsimp only [List.set, List.append, List.cons_append, List.nil_append, AV.cells, splice, List.take, List.drop, Nat.reduceAdd]; done)) (by (dsimp only [List.set, List.append, List.cons_append, List.nil_append, AV.cells, splice, List.take, List.drop, Nat.reduceAdd]; done)) ?_)
    refine AO.op (O.assign rfl rfl) rfl rfl rfl ?_
    (refine AO.store (i := 0) rfl rfl rfl rfl rfl rfl (by rfl) (by rfl) (by rfl) (by (dsimp only [List.set, List.append, List.cons_append, List.nil_append, AV.cells, splice, List.take, List.drop, Nat.reduceAdd]; done)) (by (dsimp only [List.set, List.append, List.cons_append, List.nil_append, AV.cells, splice, List.take, List.drop, Nat.reduceAdd]; done)) ?_)
    refine AO.op (O.assign rfl rfl) rfl rfl rfl ?_
    refine AO.nil ?_
    refine AQ.thenN ?_
    refine AW.ret ?_
    refine AQ.thenR ?_
    refine FnQ.coe (AQ.ret4G rfl (by exact ResAt.cell rfl (by repeat (first | exact List.Mem.head _ | refine List.Mem.tail _ ?_)) (by (dsimp only [List.set, List.append, List.cons_append, List.nil_append, AV.cells, splice, List.take, List.drop, Nat.reduceAdd]; done)) (by rfl)) (by exact ResAt.tmp rfl) (by exact ResAt.cell rfl (by repeat (exact List.Mem.head _)) (by (dsimp only [List.set, List.append, List.cons_append, List.nil_append, AV.cells, splice, List.take, List.drop, Nat.reduceAdd]; done)) (by rfl)) (by exact ResAt.tmp rfl) ⟨_, List.nil_sublist _, .nil⟩ ⟨rfl, rfl⟩) (Coe.tup (by (repeat (first | exact CoeL.nil | refine CoeL.cons Coe.rfl ?_ | refine CoeL.cons Coe.nil ?_ | refine CoeL.cons (Coe.agg ?_) ?_)); done)) (ret4V e1 rfl)
  · skip
    obtain ⟨⟨⟨hv, ht⟩, hp⟩, hvm⟩ := h
    have hok : RecvOk e p m now := ⟨hv, ht, hp, hvm⟩
    have hsm := ValE.sm hv
    have hv1 := hv.2.1
    have hv4 := hv.2.2.2.1
    have hci := clean_inn e now
    have h0 : recvR e p m now = _ := if_pos hok
    refine AW.skip ?_
    refine AQ.thenN ?_
    refine AW.seq ?_
    refine AW.region ?_
    (refine AO.op (O.loadK rfl rfl (by repeat (first | exact List.Mem.head _ | refine List.Mem.tail _ ?_)) (by (dsimp only [List.set, List.append, List.cons_append, List.nil_append, AV.cells, splice, List.take, List.drop, Nat.reduceAdd]; done)) (by rfl)) rfl rfl rfl ?_)
    refine AO.op (O.move rfl rfl) rfl rfl rfl ?_
    refine AO.opN (O.call rfl Try.func45 rfl rfl rfl (cleaned_fn e now hsm)) rfl rfl rfl ?_
    rintro _ _ ⟨V15, V25, V35, hV15, hV25, hV35, rfl, rfl⟩
    simp only [List.cons_append, List.nil_append]
    (refine AO.store (i := 6) rfl rfl rfl rfl rfl rfl (by (simp [AV.cells, AV.one, roB, roI, roO, show ∀ k z, (Value.int k z).oneCell' = true from fun _ _ => rfl, show ∀ k, (Value.bool k).oneCell' = true from fun _ => rfl, *]; done)) (by rfl) (by rfl) (by (dsimp only [List.set, List.append, List.cons_append, List.nil_append, AV.cells, splice, List.take, List.drop, Nat.reduceAdd]; done)) (by (dsimp only [List.set, List.append, List.cons_append, List.nil_append, AV.cells, splice, List.take, List.drop, Nat.reduceAdd]; done)) ?_)
    refine AO.nil ?_
    refine AQ.thenN ?_
    refine AW.seq ?_
    refine AW.seq ?_
    refine AW.region ?_
    refine AO.op (O.fieldAddr rfl rfl) rfl rfl rfl ?_
    refine AO.op (O.load rfl rfl (by repeat (first | exact List.Mem.head _ | refine List.Mem.tail _ ?_)) (by rfl)) rfl rfl rfl ?_
    refine AO.op (O.eql rfl rfl rfl (by rfl)) rfl rfl rfl ?_
    refine AO.op (O.move rfl rfl) rfl rfl rfl ?_
    refine AO.opG rfl rfl rfl (fun hp => O.fieldAddr rfl rfl) ?_
    refine AO.opG rfl rfl rfl (fun hp => OpW.force 42 rfl (by exact hp) (O.load rfl rfl (by repeat (first | exact List.Mem.head _ | refine List.Mem.tail _ ?_)) (by rfl))) ?_
    refine AO.opG rfl rfl rfl (fun hp => OpW.force 43 rfl (by exact hp) (O.eql rfl rfl rfl (by rfl))) ?_
    refine AO.op (O.pickOr rfl rfl rfl rfl (fun h => by exact congrArg (fun b => !b) h)) rfl rfl rfl ?_
    refine AO.nil ?_
    refine AQ.thenN ?_
    refine AW.split rfl (fun h2 => ?_) (fun h2 => ?_) <;> (try simp only [decide_eq_true_eq, decide_eq_false_iff_not, beq_iff_eq, beq_eq_false_iff_ne, bne_iff_ne, bne_eq_false_iff_eq, Bool.not_eq_true', Bool.not_eq_false', Bool.not_eq_true, Bool.not_eq_false, ne_eq, Int.not_lt, Int.not_le, Bool.and_eq_true, Bool.or_eq_true, Bool.or_eq_false_iff, Bool.and_eq_false_imp, strOf_toList, Decidable.not_not] at h2)
    · skip
      have e1 : recvR e p m now = _ := (h0.trans (if_pos h2)).trans (endR_shape _ _ _)
      refine AW.seq ?_
      refine AW.region ?_
      (refine AO.op (O.loadK rfl rfl (by repeat (first | exact List.Mem.head _ | refine List.Mem.tail _ ?_)) (by (dsimp only [List.set, List.append, List.cons_append, List.nil_append, AV.cells, splice, List.take, List.drop, Nat.reduceAdd]; done)) (by rfl)) rfl rfl rfl ?_)
      refine AO.op (O.move rfl rfl) rfl rfl rfl ?_
      (refine AO.op (O.loadK rfl rfl (by repeat (first | exact List.Mem.head _ | refine List.Mem.tail _ ?_)) (by (dsimp only [List.set, List.append, List.cons_append, List.nil_append, AV.cells, splice, List.take, List.drop, Nat.reduceAdd]; done)) (by rfl)) rfl rfl rfl ?_)
      (refine AO.callMG 2 rfl rfl Try.func53 rfl rfl rfl rfl rfl rfl (ended_fn (cleanE e now) p m V15 V25 V35 hV15 hV25 hV35 (by rw [cleanE_out]; omega)) ?_)
      rintro _ _ ⟨V6, hV6, rfl, rfl⟩
      dsimp only [List.cons_append, List.nil_append, List.eraseIdx]
      refine AO.op (O.extract rfl rfl rfl) rfl rfl rfl ?_
      refine AO.op (O.extract rfl rfl rfl) rfl rfl rfl ?_
      refine AO.op (O.extract rfl rfl rfl) rfl rfl rfl ?_
      refine AO.op (O.extract rfl rfl rfl) rfl rfl rfl ?_
      (refine AO.store (i := 4) rfl rfl rfl rfl rfl rfl (by (simp [AV.cells, AV.one, roB, roI, roO, show ∀ k z, (Value.int k z).oneCell' = true from fun _ _ => rfl, show ∀ k, (Value.bool k).oneCell' = true from fun _ => rfl, *]; done)) (by rfl) (by rfl) (by (dsimp only [List.set, List.append, List.cons_append, List.nil_append, AV.cells, splice, List.take, List.drop, Nat.reduceAdd]; done)) (by (dsimp only [List.set, List.append, List.cons_append, List.nil_append, AV.cells, splice, List.take, List.drop, Nat.reduceAdd]; done)) ?_)
      refine AO.op (O.assign rfl rfl) rfl rfl rfl ?_
      (refine AO.store (i := 3) rfl rfl rfl rfl rfl rfl (by rfl) (by rfl) (by rfl) (by (dsimp only [List.set, List.append, List.cons_append, List.nil_append, AV.cells, splice, List.take, List.drop, Nat.reduceAdd]; done)) (by (dsimp only [List.set, List.append, List.cons_append, List.nil_append, AV.cells, splice, List.take, List.drop, Nat.reduceAdd]; done)) ?_)
      refine AO.op (O.assign rfl rfl) rfl rfl rfl ?_
      refine AO.nil ?_
      refine AQ.thenN ?_
      refine AW.ret ?_
      refine AQ.thenR ?_
      refine AQ.g ?_
      refine G.freezeCell 0 3 1 rfl rfl rfl ?_
      refine AQ.u ?_
      dsimp only [List.eraseIdx, List.set]
      refine AQ.g ?_
      refine G.freezeCell 0 2 3 rfl rfl rfl ?_
      refine AQ.u ?_
      dsimp only [List.eraseIdx, List.set]
      refine AQ.g ?_
      refine G.freezeCell 0 1 2 rfl rfl rfl ?_
      refine AQ.u ?_
      dsimp only [List.eraseIdx, List.set]
      refine FnQ.coe (AQ.ret4G rfl (by exact ResAt.cell rfl (by repeat (first | exact List.Mem.head _ | refine List.Mem.tail _ ?_)) (by (dsimp only [List.set, List.append, List.cons_append, List.nil_append, AV.cells, splice, List.take, List.drop, Nat.reduceAdd]; done)) (by rfl)) (by exact ResAt.tmp rfl) (by exact ResAt.cell rfl (by repeat (exact List.Mem.head _)) (by (dsimp only [List.set, List.append, List.cons_append, List.nil_append, AV.cells, splice, List.take, List.drop, Nat.reduceAdd]; done)) (by rfl)) (by exact ResAt.tmp rfl) ⟨_, List.nil_sublist _, .nil⟩ ⟨rfl, rfl⟩) (Coe.tup (by (repeat (first | exact CoeL.nil | refine CoeL.cons Coe.rfl ?_)); done)) (ret4V e1 rfl)
    · skip
      have e2 : recvR e p m now = _ := h0.trans (if_neg (fun g => g.elim h2.1 h2.2))
      refine AW.skip ?_
      refine AQ.thenN ?_
      refine AW.seq ?_
      refine AW.seq ?_
      refine AW.region ?_
      refine AO.op (O.fieldAddr rfl rfl) rfl rfl rfl ?_
      refine AO.op (O.load rfl rfl (by repeat (first | exact List.Mem.head _ | refine List.Mem.tail _ ?_)) (by rfl)) rfl rfl rfl ?_
      refine AO.op (O.eql rfl rfl rfl (by rfl)) rfl rfl rfl ?_
      refine AO.nil ?_
      refine AQ.thenN ?_
      refine AW.split rfl (fun h3 => ?_) (fun h3 => ?_) <;> (try simp only [decide_eq_true_eq, decide_eq_false_iff_not, beq_iff_eq, beq_eq_false_iff_ne, bne_iff_ne, bne_eq_false_iff_eq, Bool.not_eq_true', Bool.not_eq_false', Bool.not_eq_true, Bool.not_eq_false, ne_eq, Int.not_lt, Int.not_le, Bool.and_eq_true, Bool.or_eq_true, Bool.or_eq_false_iff, Bool.and_eq_false_imp, strOf_toList, Decidable.not_not] at h3)
      · skip
        have e3 : recvR e p m now = _ := e2.trans (if_pos h3)
        refine AW.seq ?_
        refine AW.region ?_
        refine AO.opB (O.alloc rfl (by (dsimp only [zerosA, List.replicate, List.append, List.flatten, AV.cells, Value.cells, List.toList_toArray, List.map]; done)) (by rfl)) rfl rfl rfl ?_
        intro B7
        refine AO.nil ?_
        refine AQ.thenN ?_
        refine AW.seq ?_
        refine AW.seq ?_
        refine AW.region ?_
        refine AO.op (O.fieldAddr rfl rfl) rfl rfl rfl ?_
        refine AO.op (O.load rfl rfl (by repeat (first | exact List.Mem.head _ | refine List.Mem.tail _ ?_)) (by rfl)) rfl rfl rfl ?_
        refine AO.op (O.eql rfl rfl rfl (by rfl)) rfl rfl rfl ?_
        refine AO.nil ?_
        refine AQ.thenN ?_
        refine AW.split rfl (fun h59 => ?_) (fun h59 => ?_) <;> (try simp only [decide_eq_true_eq, decide_eq_false_iff_not, beq_iff_eq, beq_eq_false_iff_ne, bne_iff_ne, bne_eq_false_iff_eq, Bool.not_eq_true', Bool.not_eq_false', Bool.not_eq_true, Bool.not_eq_false, ne_eq, Int.not_lt, Int.not_le, Bool.and_eq_true, Bool.or_eq_true, Bool.or_eq_false_iff, Bool.and_eq_false_imp, strOf_toList, Decidable.not_not] at h59)
        · skip
          rw [if_pos h59] at e3
          refine AW.region ?_
          refine AO.op (O.fieldAddr rfl rfl) rfl rfl rfl ?_
          refine AO.op (O.load rfl rfl (by repeat (first | exact List.Mem.head _ | refine List.Mem.tail _ ?_)) (by rfl)) rfl rfl rfl ?_
          refine AO.op (O.build rfl rfl rfl (by rfl)) rfl rfl rfl ?_
          (refine AO.store (i := 0) rfl rfl rfl rfl rfl rfl (by rfl) (by rfl) (by rfl) (by (dsimp only [List.set, List.append, List.cons_append, List.nil_append, AV.cells, splice, List.take, List.drop, Nat.reduceAdd]; done)) (by (dsimp only [List.set, List.append, List.cons_append, List.nil_append, AV.cells, splice, List.take, List.drop, Nat.reduceAdd]; done)) ?_)
          refine AO.nil ?_
          refine AQ.thenN ?_
          refine AW.seq ?_
          refine AW.regionM [(0, false), (1, false), (2, true), (3, false), (4, true), (5, false)] (by kernel_rfl) (by kernel_rfl) (by exact (by exact splitBlk 8 5 rfl rfl (by exact splitBlk 10 4 rfl rfl splitNil))) ?_
          dsimp only [List.eraseIdx]
          (refine AM.op rfl (O.loadK rfl rfl (by repeat (first | exact List.Mem.head _ | refine List.Mem.tail _ ?_)) (by (dsimp only [List.set, List.append, List.cons_append, List.nil_append, AV.cells, splice, List.take, List.drop, Nat.reduceAdd]; done)) (by rfl)) rfl rfl rfl ?_)
          (refine AM.op rfl (O.loadK rfl rfl (by repeat (exact List.Mem.head _)) (by (dsimp only [List.set, List.append, List.cons_append, List.nil_append, AV.cells, splice, List.take, List.drop, Nat.reduceAdd]; done)) (by rfl)) rfl rfl rfl ?_)
          refine AM.main _ rfl (fun w0 R0 => ?_)
          (refine AO.store (i := 0) rfl rfl rfl rfl rfl rfl (by (simp [AV.cells, AV.one, roB, roI, roO, show ∀ k z, (Value.int k z).oneCell' = true from fun _ _ => rfl, show ∀ k, (Value.bool k).oneCell' = true from fun _ => rfl, *]; done)) (by rfl) (by rfl) (by (dsimp only [List.set, List.append, List.cons_append, List.nil_append, AV.cells, splice, List.take, List.drop, Nat.reduceAdd]; done)) (by (dsimp only [List.set, List.append, List.cons_append, List.nil_append, AV.cells, splice, List.take, List.drop, Nat.reduceAdd]; done)) ?_)
          refine AM.okN ?_
          dsimp only [putE]
          refine AM.op rfl (O.assign rfl rfl) rfl rfl rfl ?_
          refine AM.main _ rfl (fun w0 R0 => ?_)
          (refine AO.store (i := 1) rfl rfl rfl rfl rfl rfl (by rfl) (by rfl) (by rfl) (by (dsimp only [List.set, List.append, List.cons_append, List.nil_append, AV.cells, splice, List.take, List.drop, Nat.reduceAdd]; done)) (by (dsimp only [List.set, List.append, List.cons_append, List.nil_append, AV.cells, splice, List.take, List.drop, Nat.reduceAdd]; done)) ?_)
          refine AM.okN ?_
          dsimp only [putE]
          refine AM.op rfl (O.assign rfl rfl) rfl rfl rfl ?_
          refine AM.nil ?_
          dsimp only [List.cons_append, List.nil_append]
          refine AQ.thenN ?_
          refine AW.ret ?_
          refine AQ.thenR ?_
          refine AQ.g ?_
          refine G.freezeCell 3 0 3 rfl rfl rfl ?_
          refine AQ.u ?_
          dsimp only [List.eraseIdx, List.set]
          refine AQ.g ?_
          refine G.freezeCell 3 0 2 rfl rfl rfl ?_
          refine AQ.u ?_
          dsimp only [List.eraseIdx, List.set]
          refine AQ.g ?_
          refine G.freezeCell 3 0 1 rfl rfl rfl ?_
          refine AQ.u ?_
          dsimp only [List.eraseIdx, List.set]
          refine FnQ.coe (AQ.ret4G rfl (by exact ResAt.cell rfl (by repeat (exact List.Mem.head _)) (by (dsimp only [List.set, List.append, List.cons_append, List.nil_append, AV.cells, splice, List.take, List.drop, Nat.reduceAdd]; done)) (by rfl)) (by exact ResAt.tmp rfl) (by exact ResAt.cell rfl (by repeat (first | exact List.Mem.head _ | refine List.Mem.tail _ ?_)) (by (dsimp only [List.set, List.append, List.cons_append, List.nil_append, AV.cells, splice, List.take, List.drop, Nat.reduceAdd]; done)) (by rfl)) (by exact ResAt.tmp rfl) ⟨_, List.nil_sublist _, .nil⟩ ⟨rfl, rfl⟩) (Coe.tup (by (repeat (first | exact CoeL.nil | refine CoeL.cons Coe.rfl ?_ | refine CoeL.cons Coe.nil ?_ | refine CoeL.cons (Coe.agg ?_) ?_)); done)) (ret4V e3 rfl)
        · skip
          rw [if_neg h59] at e3
          refine AW.skip ?_
          refine AQ.thenN ?_
          refine AW.seq ?_
          refine AW.regionM [(0, false), (1, false), (2, true), (3, false), (4, true), (5, false)] (by kernel_rfl) (by kernel_rfl) (by exact (by exact splitBlk 8 5 rfl rfl (by exact splitBlk 10 4 rfl rfl splitNil))) ?_
          dsimp only [List.eraseIdx]
          (refine AM.op rfl (O.loadK rfl rfl (by repeat (first | exact List.Mem.head _ | refine List.Mem.tail _ ?_)) (by (dsimp only [List.set, List.append, List.cons_append, List.nil_append, AV.cells, splice, List.take, List.drop, Nat.reduceAdd]; done)) (by rfl)) rfl rfl rfl ?_)
          (refine AM.op rfl (O.loadK rfl rfl (by repeat (exact List.Mem.head _)) (by (dsimp only [List.set, List.append, List.cons_append, List.nil_append, AV.cells, splice, List.take, List.drop, Nat.reduceAdd]; done)) (by rfl)) rfl rfl rfl ?_)
          refine AM.main _ rfl (fun w0 R0 => ?_)
          (refine AO.store (i := 0) rfl rfl rfl rfl rfl rfl (by (simp [AV.cells, AV.one, roB, roI, roO, show ∀ k z, (Value.int k z).oneCell' = true from fun _ _ => rfl, show ∀ k, (Value.bool k).oneCell' = true from fun _ => rfl, *]; done)) (by rfl) (by rfl) (by (dsimp only [List.set, List.append, List.cons_append, List.nil_append, AV.cells, splice, List.take, List.drop, Nat.reduceAdd]; done)) (by (dsimp only [List.set, List.append, List.cons_append, List.nil_append, AV.cells, splice, List.take, List.drop, Nat.reduceAdd]; done)) ?_)
          refine AM.okN ?_
          dsimp only [putE]
          refine AM.op rfl (O.assign rfl rfl) rfl rfl rfl ?_
          refine AM.main _ rfl (fun w0 R0 => ?_)
          (refine AO.store (i := 1) rfl rfl rfl rfl rfl rfl (by rfl) (by rfl) (by rfl) (by (dsimp only [List.set, List.append, List.cons_append, List.nil_append, AV.cells, splice, List.take, List.drop, Nat.reduceAdd]; done)) (by (dsimp only [List.set, List.append, List.cons_append, List.nil_append, AV.cells, splice, List.take, List.drop, Nat.reduceAdd]; done)) ?_)
          refine AM.okN ?_
          dsimp only [putE]
          refine AM.op rfl (O.assign rfl rfl) rfl rfl rfl ?_
          refine AM.nil ?_
          dsimp only [List.cons_append, List.nil_append]
          refine AQ.thenN ?_
          refine AW.ret ?_
          refine AQ.thenR ?_
          refine AQ.g ?_
          refine G.freezeCell 3 0 3 rfl rfl rfl ?_
          refine AQ.u ?_
          dsimp only [List.eraseIdx, List.set]
          refine AQ.g ?_
          refine G.freezeCell 3 0 2 rfl rfl rfl ?_
          refine AQ.u ?_
          dsimp only [List.eraseIdx, List.set]
          refine AQ.g ?_
          refine G.freezeCell 3 0 1 rfl rfl rfl ?_
          refine AQ.u ?_
          dsimp only [List.eraseIdx, List.set]
          refine FnQ.coe (AQ.ret4G rfl (by exact ResAt.cell rfl (by repeat (exact List.Mem.head _)) (by (dsimp only [List.set, List.append, List.cons_append, List.nil_append, AV.cells, splice, List.take, List.drop, Nat.reduceAdd]; done)) (by rfl)) (by exact ResAt.tmp rfl) (by exact ResAt.cell rfl (by repeat (first | exact List.Mem.head _ | refine List.Mem.tail _ ?_)) (by (dsimp only [List.set, List.append, List.cons_append, List.nil_append, AV.cells, splice, List.take, List.drop, Nat.reduceAdd]; done)) (by rfl)) (by exact ResAt.tmp rfl) ⟨_, List.nil_sublist _, .nil⟩ ⟨rfl, rfl⟩) (Coe.tup (by (repeat (first | exact CoeL.nil | refine CoeL.cons Coe.rfl ?_ | refine CoeL.cons Coe.nil ?_ | refine CoeL.cons (Coe.agg ?_) ?_)); done)) (ret4V e3 rfl)
      · skip
        have e3 : recvR e p m now = _ := e2.trans (if_neg h3)
        refine AW.skip ?_
        refine AQ.thenN ?_
        refine AW.seq ?_
        refine AW.seq ?_
        refine AW.region ?_
        refine AO.op (O.fieldAddr rfl rfl) rfl rfl rfl ?_
        refine AO.op (O.load rfl rfl (by repeat (first | exact List.Mem.head _ | refine List.Mem.tail _ ?_)) (by rfl)) rfl rfl rfl ?_
        refine AO.op (O.lenRow rfl rfl (by repeat (exact List.Mem.head _))) rfl rfl rfl ?_
        refine AO.op (O.move rfl rfl) rfl rfl rfl ?_
        refine AO.nil ?_
        refine AQ.thenN ?_
        refine AW.block ?_
        refine AW.loopK [(1, _), (3, _), (4, _), (6, _), (8, _), (10, _), (66, _), (67, _)] (fun nn E H => ∃ (k : Nat), (k ≤ (cleanE e now).inn.length) ∧ (∀ q, q < k → hB p m.id (hd (cleanE e now).inn q) = false) ∧ nn = (cleanE e now).inn.length - k ∧ E = [(68, .val (.int .i64 (k : Int)))] ∧ H = [.row V35 63 10 (cleanE e now).inn.length (hdsA (cleanE e now).inn), .row V25 60 3 (cleanE e now).used.length (ussA (cleanE e now).used), .row V15 71 9 (cleanE e now).out.length (wtsA (cleanE e now).out), .blk B4 31 6 [.val (.int .i64 0), .val (.int .i64 0), .val (.int .i64 0), .val nilS, .val nilS, .val nilS], .blk B3 26 4 [.val (.int .i64 0), .val nilS, .val nilS, .val nilS], .blk B2 31 6 [.val (.int .i64 m.ty), .val (.int .i64 m.code), .val (.int .i64 m.id), roB m.tok, roO m.opts, roB m.pay], .blk B1 26 4 [.val (.int .i64 (cleanE e now).next), .val V15, .val V25, .val V35]]) _ (⟨0, by omega, fun q hq => absurd hq (by omega), rfl, rfl, rfl⟩) (by repeat (first | exact envNil | refine envCons rfl ?_)) (by repeat (first | exact envNil | refine envCons rfl ?_)) (by repeat (first | exact subPnil | refine subPcons 0 rfl ?_)) ?_
        rintro nn E H ⟨k, hk1, hn, rfl, rfl, rfl⟩
        dsimp only [List.cons_append, List.nil_append]
        refine AW.seq ?_
        refine AW.region ?_
        refine AO.op (O.lss rfl rfl rfl (by rfl)) rfl rfl rfl ?_
        refine AO.nil ?_
        refine AQ.thenN ?_
        refine AW.seq ?_
        refine AW.split rfl (fun hlt => ?_) (fun hlt => ?_) <;> (try simp only [decide_eq_true_eq, decide_eq_false_iff_not, beq_iff_eq, beq_eq_false_iff_ne, bne_iff_ne, bne_eq_false_iff_eq, Bool.not_eq_true', Bool.not_eq_false', Bool.not_eq_true, Bool.not_eq_false, ne_eq, Int.not_lt, Int.not_le, Bool.and_eq_true, Bool.or_eq_true, Bool.or_eq_false_iff, Bool.and_eq_false_imp, strOf_toList, Decidable.not_not] at hlt)
        · skip
          have hk : k < (cleanE e now).inn.length := by omega
          have hgw : ((hdsA (cleanE e now).inn).drop (0 + Int.toNat (k : Int) * 10)).take 10 = cH (hd (cleanE e now).inn k) := by rw [Nat.zero_add]; exact getH hk (by omega)
          have hmm : SmM (hd (cleanE e now).inn k).m := hsm.im _ (List.mem_filter.1 (getD_mem Hd.none hk)).1
          refine AW.g ?_
          refine G.openRow 0 rfl (by omega) (fun b cap hc1 hc2 hxs hVe => ?_)
          refine AW.u ?_
          subst hVe
          dsimp only [List.set]
          refine AW.skip ?_
          refine AQ.thenN ?_
          refine AW.seq ?_
          refine AW.block ?_
          refine AW.seq ?_
          refine AW.region ?_
          refine AO.op (O.idxV rfl rfl rfl ⟨(by omega), (by omega)⟩) rfl rfl rfl ?_
          refine AO.op (O.loadK rfl rfl (by repeat (exact List.Mem.head _)) (by exact hgw) (by rfl)) rfl rfl rfl ?_
          refine AO.opB (O.alloc rfl (by (dsimp only [zerosA, List.replicate, List.append, List.flatten, AV.cells, Value.cells, List.toList_toArray, List.map]; done)) (by rfl)) rfl rfl rfl ?_
          intro B8
          (refine AO.store (i := 0) rfl rfl rfl rfl rfl rfl (by rfl) (by rfl) (by rfl) (by (dsimp only [List.set, List.append, List.cons_append, List.nil_append, AV.cells, splice, List.take, List.drop, Nat.reduceAdd]; done)) (by (dsimp only [List.set, List.append, List.cons_append, List.nil_append, AV.cells, splice, List.take, List.drop, Nat.reduceAdd]; done)) ?_)
          refine AO.nil ?_
          refine AQ.thenN ?_
          refine AW.seq ?_
          refine AW.region ?_
          refine AO.op (O.fieldAddr rfl rfl) rfl rfl rfl ?_
          refine AO.op (O.load rfl rfl (by repeat (exact List.Mem.head _)) (by rfl)) rfl rfl rfl ?_
          refine AO.op (O.move rfl rfl) rfl rfl rfl ?_
          refine AO.op (O.eql rfl rfl rfl (by rfl)) rfl rfl rfl ?_
          refine AO.op (O.move rfl rfl) rfl rfl rfl ?_
          refine AO.opG rfl rfl rfl (fun hp => O.fieldAddr rfl rfl) ?_
          refine AO.opG rfl rfl rfl (fun hp => OpW.force 77 rfl (by exact hp) (O.load rfl rfl (by repeat (exact List.Mem.head _)) (by rfl))) ?_
          refine AO.opG rfl rfl rfl (fun hp => O.fieldAddr rfl rfl) ?_
          refine AO.opG rfl rfl rfl (fun hp => OpW.force 79 rfl (by exact hp) (O.load rfl rfl (by repeat (first | exact List.Mem.head _ | refine List.Mem.tail _ ?_)) (by rfl))) ?_
          refine AO.opG rfl rfl rfl (fun hp => OpW.force 78 rfl (by exact hp) (OpW.force 80 rfl (by exact hp) (O.eql rfl rfl rfl (by rfl)))) ?_
          refine AO.op (O.pickAnd rfl rfl rfl rfl (fun h => by exact h)) rfl rfl rfl ?_
          refine AO.nil ?_
          refine AQ.thenN ?_
          refine AW.split rfl (fun h82 => ?_) (fun h82 => ?_) <;> (try simp only [decide_eq_true_eq, decide_eq_false_iff_not, beq_iff_eq, beq_eq_false_iff_ne, bne_iff_ne, bne_eq_false_iff_eq, Bool.not_eq_true', Bool.not_eq_false', Bool.not_eq_true, Bool.not_eq_false, ne_eq, Int.not_lt, Int.not_le, Bool.and_eq_true, Bool.or_eq_true, Bool.or_eq_false_iff, Bool.and_eq_false_imp, strOf_toList, Decidable.not_not] at h82)
          · skip
            have e0 := fi_some (hB p m.id) Hd.none hk (by rw [hB, Bool.and_eq_true, beq_iff_eq, beq_iff_eq]; exact h82) hn
            have e4 : recvR e p m now = (cleanE e now, 2, (hd (cleanE e now).inn k).m, 0) := e3.trans (by rw [gotR, e0])
            refine AW.seq ?_
            refine AW.regionD 4 (by kernel_rfl) (by kernel_rfl) ?_
            simp only [List.take_succ_cons, List.take_zero, List.drop_succ_cons, List.drop_zero]
            refine FA.op (O.loadK rfl rfl (by repeat (first | exact List.Mem.head _ | refine List.Mem.tail _ ?_)) (by rfl) (by rfl)) rfl rfl rfl rfl ?_
            refine FA.op (O.fieldAddr rfl rfl) rfl rfl rfl rfl ?_
            refine FA.op (O.loadK rfl rfl (by repeat (exact List.Mem.head _)) (by rfl) (by rfl)) rfl rfl rfl rfl ?_
            refine FA.op (O.call rfl Try.func47 rfl rfl rfl (message_fn (hd (cleanE e now).inn k).m hmm)) rfl rfl rfl rfl ?_
            refine FA.nil ?_
            simp only [chosen, List.nil_append, List.cons_append, List.append_nil]
            (refine AO.store (i := 5) rfl rfl rfl rfl rfl rfl (by (simp [AV.cells, AV.one, roB, roI, roO, show ∀ k z, (Value.int k z).oneCell' = true from fun _ _ => rfl, show ∀ k, (Value.bool k).oneCell' = true from fun _ => rfl, *]; done)) (by rfl) (by rfl) (by (dsimp only [List.set, List.append, List.cons_append, List.nil_append, AV.cells, splice, List.take, List.drop, Nat.reduceAdd]; done)) (by (dsimp only [List.set, List.append, List.cons_append, List.nil_append, AV.cells, splice, List.take, List.drop, Nat.reduceAdd]; done)) ?_)
            refine AO.op (O.assign rfl rfl) rfl rfl rfl ?_
            (refine AO.store (i := 4) rfl rfl rfl rfl rfl rfl (by rfl) (by rfl) (by rfl) (by (dsimp only [List.set, List.append, List.cons_append, List.nil_append, AV.cells, splice, List.take, List.drop, Nat.reduceAdd]; done)) (by (dsimp only [List.set, List.append, List.cons_append, List.nil_append, AV.cells, splice, List.take, List.drop, Nat.reduceAdd]; done)) ?_)
            refine AO.op (O.assign rfl rfl) rfl rfl rfl ?_
            refine AO.nil ?_
            refine AQ.thenN ?_
            refine AW.ret ?_
            refine AQ.blockR ?_
            refine AQ.thenR ?_
            refine AQ.loopR ?_
            refine AQ.blockR ?_
            refine AQ.thenR ?_
            refine AQ.g ?_
            refine G.closeRow (b := b) (sz := 10) (n := (cleanE e now).inn.length) (cap := cap) 1 rfl hxs rfl hc1 hc2 ?_
            refine AQ.u ?_
            dsimp only [List.set]
            refine AQ.g ?_
            refine G.freezeCell 1 4 3 rfl rfl rfl ?_
            refine AQ.u ?_
            dsimp only [List.eraseIdx, List.set]
            refine AQ.g ?_
            refine G.freezeCell 1 3 2 rfl rfl rfl ?_
            refine AQ.u ?_
            dsimp only [List.eraseIdx, List.set]
            refine AQ.g ?_
            refine G.freezeCell 1 2 1 rfl rfl rfl ?_
            refine AQ.u ?_
            dsimp only [List.eraseIdx, List.set]
            refine FnQ.coe (AQ.ret4G rfl (by exact ResAt.cell rfl (by repeat (first | exact List.Mem.head _ | refine List.Mem.tail _ ?_)) (by (dsimp only [List.set, List.append, List.cons_append, List.nil_append, AV.cells, splice, List.take, List.drop, Nat.reduceAdd]; done)) (by rfl)) (by exact ResAt.tmp rfl) (by exact ResAt.cell rfl (by repeat (first | exact List.Mem.head _ | refine List.Mem.tail _ ?_)) (by (dsimp only [List.set, List.append, List.cons_append, List.nil_append, AV.cells, splice, List.take, List.drop, Nat.reduceAdd]; done)) (by rfl)) (by exact ResAt.tmp rfl) ⟨_, List.nil_sublist _, .nil⟩ ⟨rfl, rfl⟩) (Coe.tup (by (repeat (first | exact CoeL.nil | refine CoeL.cons Coe.rfl ?_)); done)) (ret4V e4 rfl)
          · skip
            refine AW.skip ?_
            refine AQ.blockN ?_
            refine AQ.thenN ?_
            refine AW.region ?_
            refine AO.op (O.add rfl rfl rfl (by exact wI64 (by omega))) rfl rfl rfl ?_
            refine AO.op (O.move rfl rfl) rfl rfl rfl ?_
            refine AO.nil ?_
            refine AQ.g ?_
            refine G.closeRow (b := b) (sz := 10) (n := (cleanE e now).inn.length) (cap := cap) 1 rfl hxs rfl hc1 hc2 ?_
            refine AQ.u ?_
            dsimp only [List.set]
            refine AQ.loopKN _ _ _ (by omega) (⟨k + 1, by omega, fun q hq => (Nat.lt_or_ge q k).elim (hn q) (fun h => by rw [show q = k by omega, hB, Bool.eq_false_iff, ne_eq, Bool.and_eq_true, beq_iff_eq, beq_iff_eq]; exact fun ⟨a, b⟩ => h82 a b), rfl, rfl, rfl⟩) (by repeat (first | exact envNil | refine envCons rfl ?_)) (by repeat (first | exact envNil | refine envCons rfl ?_)) (by repeat (first | exact subPnil | refine subPcons 1 rfl ?_))
        · skip
          obtain rfl : k = (cleanE e now).inn.length := by omega
          have e0 := fi_none (hB p m.id) Hd.none hn
          refine AW.exit ?_
          refine AQ.thenX ?_
          refine AQ.loopX ?_
          refine AQ.blockX rfl ?_
          refine AQ.thenN ?_
          refine AW.seq ?_
          refine AW.seq ?_
          refine AW.region ?_
          refine AO.op (O.fieldAddr rfl rfl) rfl rfl rfl ?_
          refine AO.op (O.load rfl rfl (by repeat (first | exact List.Mem.head _ | refine List.Mem.tail _ ?_)) (by rfl)) rfl rfl rfl ?_
          refine AO.op (O.lenRow rfl rfl (by repeat (exact List.Mem.head _))) rfl rfl rfl ?_
          refine AO.op (O.geq rfl rfl rfl (by rfl)) rfl rfl rfl ?_
          refine AO.nil ?_
          refine AQ.thenN ?_
          refine AW.split rfl (fun h91 => ?_) (fun h91 => ?_) <;> (try simp only [decide_eq_true_eq, decide_eq_false_iff_not, beq_iff_eq, beq_eq_false_iff_ne, bne_iff_ne, bne_eq_false_iff_eq, Bool.not_eq_true', Bool.not_eq_false', Bool.not_eq_true, Bool.not_eq_false, ne_eq, Int.not_lt, Int.not_le, Bool.and_eq_true, Bool.or_eq_true, Bool.or_eq_false_iff, Bool.and_eq_false_imp, strOf_toList, Decidable.not_not] at h91)
          · skip
            have e4 : recvR e p m now = (cleanE e now, 6, Msg.none, 0) := e3.trans (by rw [gotR, e0]; exact if_pos (by omega))
            refine AW.seq ?_
            refine AW.region ?_
            refine AO.op (O.loadK rfl rfl (by repeat (first | exact List.Mem.head _ | refine List.Mem.tail _ ?_)) (by rfl) (by rfl)) rfl rfl rfl ?_
            refine AO.op (O.build rfl rfl rfl (by rfl)) rfl rfl rfl ?_
            (refine AO.store (i := 4) rfl rfl rfl rfl rfl rfl (by (simp [AV.cells, AV.one, roB, roI, roO, show ∀ k z, (Value.int k z).oneCell' = true from fun _ _ => rfl, show ∀ k, (Value.bool k).oneCell' = true from fun _ => rfl, *]; done)) (by rfl) (by rfl) (by (dsimp only [List.set, List.append, List.cons_append, List.nil_append, AV.cells, splice, List.take, List.drop, Nat.reduceAdd]; done)) (by (dsimp only [List.set, List.append, List.cons_append, List.nil_append, AV.cells, splice, List.take, List.drop, Nat.reduceAdd]; done)) ?_)
            refine AO.op (O.assign rfl rfl) rfl rfl rfl ?_
            (refine AO.store (i := 3) rfl rfl rfl rfl rfl rfl (by rfl) (by rfl) (by rfl) (by (dsimp only [List.set, List.append, List.cons_append, List.nil_append, AV.cells, splice, List.take, List.drop, Nat.reduceAdd]; done)) (by (dsimp only [List.set, List.append, List.cons_append, List.nil_append, AV.cells, splice, List.take, List.drop, Nat.reduceAdd]; done)) ?_)
            refine AO.op (O.assign rfl rfl) rfl rfl rfl ?_
            refine AO.nil ?_
            refine AQ.thenN ?_
            refine AW.ret ?_
            refine AQ.thenR ?_
            refine AQ.g ?_
            refine G.freezeCell 0 3 3 rfl rfl rfl ?_
            refine AQ.u ?_
            dsimp only [List.eraseIdx, List.set]
            refine AQ.g ?_
            refine G.freezeCell 0 2 2 rfl rfl rfl ?_
            refine AQ.u ?_
            dsimp only [List.eraseIdx, List.set]
            refine AQ.g ?_
            refine G.freezeCell 0 1 1 rfl rfl rfl ?_
            refine AQ.u ?_
            dsimp only [List.eraseIdx, List.set]
            refine FnQ.coe (AQ.ret4G rfl (by exact ResAt.cell rfl (by repeat (first | exact List.Mem.head _ | refine List.Mem.tail _ ?_)) (by (dsimp only [List.set, List.append, List.cons_append, List.nil_append, AV.cells, splice, List.take, List.drop, Nat.reduceAdd]; done)) (by rfl)) (by exact ResAt.tmp rfl) (by exact ResAt.cell rfl (by repeat (exact List.Mem.head _)) (by (dsimp only [List.set, List.append, List.cons_append, List.nil_append, AV.cells, splice, List.take, List.drop, Nat.reduceAdd]; done)) (by rfl)) (by exact ResAt.tmp rfl) ⟨_, List.nil_sublist _, .nil⟩ ⟨rfl, rfl⟩) (Coe.tup (by (repeat (first | exact CoeL.nil | refine CoeL.cons Coe.rfl ?_ | refine CoeL.cons Coe.nil ?_ | refine CoeL.cons (Coe.agg ?_) ?_)); done)) (ret4V e4 rfl)
          · skip
            have e4 : recvR e p m now = (⟨(cleanE e now).next, (cleanE e now).out, (cleanE e now).used, (cleanE e now).inn ++ [⟨p, m.id, now + 128, false, Msg.none⟩]⟩, 1, Msg.none, 0) := e3.trans (by rw [gotR, e0]; exact if_neg (by omega))
            refine AW.skip ?_
            refine AQ.thenN ?_
            refine AW.seq ?_
            refine AW.region ?_
            refine AO.op (O.fieldAddr rfl rfl) rfl rfl rfl ?_
            refine AO.op (O.load rfl rfl (by repeat (first | exact List.Mem.head _ | refine List.Mem.tail _ ?_)) (by rfl)) rfl rfl rfl ?_
            refine AO.op (O.move rfl rfl) rfl rfl rfl ?_
            refine AO.op (O.fieldAddr rfl rfl) rfl rfl rfl ?_
            refine AO.op (O.load rfl rfl (by repeat (first | exact List.Mem.head _ | refine List.Mem.tail _ ?_)) (by rfl)) rfl rfl rfl ?_
            refine AO.op (O.move rfl rfl) rfl rfl rfl ?_
            refine AO.op (O.add rfl rfl rfl (by exact wI64 (by omega))) rfl rfl rfl ?_
            refine AO.op (O.build rfl rfl rfl (by rfl)) rfl rfl rfl ?_
            refine AO.opB (O.buildSlice rfl rfl rfl (by rfl) (by rfl) (by rfl) (by rfl)) rfl rfl rfl ?_
            intro B9
            refine AO.g ?_
            (refine G.freezeSl 0 102 rfl rfl ⟨Nat.le_refl _, by unfold maxLen; omega⟩ ?_)
            refine G.unfull 102 rfl ?_
            refine AO.u ?_
            dsimp only [List.eraseIdx]
            (refine AO.append' (i := 0) rfl rfl rfl rfl (by rfl) (by rfl) rfl rfl rfl (by exact SrcA.ro TyD.ax (by rfl) (Nat.le_of_ble_eq_true rfl)) (by rfl) (by (unfold maxLen; omega)) (by omega) (by (dsimp only [List.set, List.append, List.cons_append, List.nil_append, AV.cells, splice, List.take, List.drop, Nat.reduceAdd]; done)) (fun _ => by (dsimp only [List.set]; done)) ?_)
            intro V10 hV10
            refine AO.op (O.fieldAddr rfl rfl) rfl rfl rfl ?_
            (refine AO.store (i := 6) rfl rfl rfl rfl rfl rfl (by (simp [AV.cells, AV.one, *]; done)) (by rfl) (by rfl) (by (dsimp only [List.set, List.append, List.cons_append, List.nil_append, AV.cells, splice, List.take, List.drop, Nat.reduceAdd]; done)) (by (dsimp only [List.set, List.append, List.cons_append, List.nil_append, AV.cells, splice, List.take, List.drop, Nat.reduceAdd]; done)) ?_)
            refine AO.nil ?_
            refine AQ.thenN ?_
            refine AW.seq ?_
            refine AW.region ?_
            refine AO.op (O.loadK rfl rfl (by repeat (first | exact List.Mem.head _ | refine List.Mem.tail _ ?_)) (by rfl) (by rfl)) rfl rfl rfl ?_
            refine AO.op (O.build rfl rfl rfl (by rfl)) rfl rfl rfl ?_
            (refine AO.store (i := 4) rfl rfl rfl rfl rfl rfl (by (simp [AV.cells, AV.one, roB, roI, roO, show ∀ k z, (Value.int k z).oneCell' = true from fun _ _ => rfl, show ∀ k, (Value.bool k).oneCell' = true from fun _ => rfl, *]; done)) (by rfl) (by rfl) (by (dsimp only [List.set, List.append, List.cons_append, List.nil_append, AV.cells, splice, List.take, List.drop, Nat.reduceAdd]; done)) (by (dsimp only [List.set, List.append, List.cons_append, List.nil_append, AV.cells, splice, List.take, List.drop, Nat.reduceAdd]; done)) ?_)
            refine AO.op (O.assign rfl rfl) rfl rfl rfl ?_
            (refine AO.store (i := 3) rfl rfl rfl rfl rfl rfl (by rfl) (by rfl) (by rfl) (by (dsimp only [List.set, List.append, List.cons_append, List.nil_append, AV.cells, splice, List.take, List.drop, Nat.reduceAdd]; done)) (by (dsimp only [List.set, List.append, List.cons_append, List.nil_append, AV.cells, splice, List.take, List.drop, Nat.reduceAdd]; done)) ?_)
            refine AO.op (O.assign rfl rfl) rfl rfl rfl ?_
            refine AO.nil ?_
            refine AQ.thenN ?_
            refine AW.ret ?_
            refine AQ.g ?_
            refine G.coeRow 0 ((cleanE e now).inn ++ [(⟨p, m.id, now + 128, false, Msg.none⟩ : Hd)]).length (hdsA ((cleanE e now).inn ++ [(⟨p, m.id, now + 128, false, Msg.none⟩ : Hd)])) rfl (snoc_len _ _) (by rw [hdsA_snoc]; refine CoeL.app CoeL.refl ?_; repeat (first | exact CoeL.nil | refine CoeL.cons Coe.rfl ?_ | refine CoeL.cons Coe.nil ?_)) ?_
            refine AQ.u ?_
            dsimp only [List.set]
            refine AQ.g ?_
            refine G.freezeCell 0 3 3 rfl rfl rfl ?_
            refine AQ.u ?_
            dsimp only [List.eraseIdx, List.set]
            refine AQ.g ?_
            refine G.freezeCell 0 2 2 rfl rfl rfl ?_
            refine AQ.u ?_
            dsimp only [List.eraseIdx, List.set]
            refine AQ.g ?_
            refine G.freezeCell 0 1 1 rfl rfl rfl ?_
            refine AQ.u ?_
            dsimp only [List.eraseIdx, List.set]
            refine FnQ.coe (AQ.ret4G rfl (by exact ResAt.cell rfl (by repeat (first | exact List.Mem.head _ | refine List.Mem.tail _ ?_)) (by (dsimp only [List.set, List.append, List.cons_append, List.nil_append, AV.cells, splice, List.take, List.drop, Nat.reduceAdd]; done)) (by rfl)) (by exact ResAt.tmp rfl) (by exact ResAt.cell rfl (by repeat (exact List.Mem.head _)) (by (dsimp only [List.set, List.append, List.cons_append, List.nil_append, AV.cells, splice, List.take, List.drop, Nat.reduceAdd]; done)) (by rfl)) (by exact ResAt.tmp rfl) ⟨_, List.nil_sublist _, .nil⟩ ⟨rfl, rfl⟩) (Coe.tup (by (repeat (first | exact CoeL.nil | refine CoeL.cons Coe.rfl ?_ | refine CoeL.cons Coe.nil ?_ | refine CoeL.cons (Coe.agg ?_) ?_)); done)) (ret4V e4 rfl)
end Go.Proofs.Ytdnmilmcdbgppaa.By

namespace Go.Proofs.Ytdnmilmcdbgppaa.By
open Go.RowKit L A
set_option linter.unusedVariables false
set_option maxRecDepth 20000
set_option linter.unusedSimpArgs false
attribute [local irreducible] AW AQ AO
end Go.Proofs.Ytdnmilmcdbgppaa.By

namespace Go.Proofs.Ytdnmilmcdbgppaa.By
open Go.RowKit L A
set_option linter.unusedVariables false
set_option maxRecDepth 20000
set_option linter.unusedSimpArgs false
attribute [local irreducible] AW AQ AO
theorem splice_right : ∀ (ys A X : List AV) (c j : Nat), j = A.length + c → splice (A ++ X) j ys = A ++ splice X c ys
  | [], A, X, c, j, h => rfl
  | y :: ys, A, X, c, j, h => by
    subst h
    show splice ((A ++ X).set (A.length + c) y) (A.length + c + 1) ys = A ++ splice (X.set c y) (c + 1) ys
    rw [List.set_append_right _ _ (by omega), show A.length + c - A.length = c by omega, splice_right ys A (X.set c y) (c + 1) _ (by omega)]
theorem splice_left : ∀ (ys B C : List AV) (c : Nat), c + ys.length ≤ B.length → splice (B ++ C) c ys = splice B c ys ++ C
  | [], B, C, c, h => rfl
  | y :: ys, B, C, c, h => by
    have h : c + (ys.length + 1) ≤ B.length := h
    show splice ((B ++ C).set c y) (c + 1) ys = splice (B.set c y) (c + 1) ys ++ C
    rw [List.set_append_left _ _ (by omega), splice_left ys (B.set c y) C (c + 1) (by rw [List.length_set]; omega)]
theorem flat_splice {α : Type} {f : α → List AV} {k : Nat} (hf : ∀ a, (f a).length = k) (d : α) {l : List α} {i c : Nat} (h : i < l.length) {ys : List AV} (hc : c + ys.length ≤ k) {a : α} (ha : splice (f (l.getD i d)) c ys = f a) {j : Nat} (hj : j = i * k + c) : splice (l.flatMap f) j ys = (l.set i a).flatMap f := by
  have e : l.flatMap f = (l.flatMap f).take (i * k) ++ (f (l.getD i d) ++ (l.flatMap f).drop (i * k + k)) := by
    have h1 := flat_at hf d h rfl
    rw [← h1, ← List.drop_drop, List.take_append_drop, List.take_append_drop]
  have hl : ((l.flatMap f).take (i * k)).length = i * k := by
    rw [List.length_take, flat_len hf, Nat.min_eq_left (Nat.mul_le_mul_right k (by omega))]
  rw [e, splice_right ys _ _ c j (by rw [hl]; exact hj), splice_left ys _ _ c (by rw [hf]; exact hc), ha, flat_set hf a h, List.append_assoc]
theorem cellHi {l : List Hd} {k : Nat} (h : k < l.length) (c : Nat) (hc : c < 10) {j : Nat} (hj : j = k * 10 + c) {v : AV} (hv : (cellsH (hd l k))[c]? = some v) : (hdsA l)[j]? = some v := (cellH h hc hj).trans hv
theorem splice_ans {l : List Hd} {k : Nat} (h : k < l.length) {j : Nat} (hj : j = k * 10 + 3) : splice (hdsA l) j [.val (.bool true)] = hdsA (l.set k { hd l k with ans := true }) := flat_splice cellsH_len Hd.none h (c := 3) (by decide) rfl hj
theorem splice_msg {l : List Hd} {k : Nat} (h : k < l.length) (m : Msg) {j : Nat} (hj : j = k * 10 + 4) : splice (hdsA (l.set k { hd l k with ans := true })) j [.val (.int .i64 m.ty), .val (.int .i64 m.code), .val (.int .i64 m.id), roB m.tok, roO m.opts, roB m.pay] = hdsA (l.set k { hd l k with ans := true, m := m }) := by
  have h2 : k < (l.set k { hd l k with ans := true }).length := by rw [List.length_set]; exact h
  have e : (l.set k { hd l k with ans := true }).getD k Hd.none = { hd l k with ans := true } := by simp [h]
  refine (flat_splice cellsH_len Hd.none h2 (c := 4) (ys := [.val (.int .i64 m.ty), .val (.int .i64 m.code), .val (.int .i64 m.id), roB m.tok, roO m.opts, roB m.pay]) (by show 4 + 6 ≤ 10; omega) (a := { hd l k with ans := true, m := m }) (by rw [e]; rfl) hj).trans ?_
  rw [List.set_set]; rfl
abbrev ackM (m : Msg) (id : Int) : Msg := ⟨2, m.code, id, m.tok, m.opts, m.pay⟩
def answerR (e : Ep) (p id : Int) (m : Msg) (now : Int) : Ep × Msg × Int :=
  if RecvOk e p (ackM m id) now then
    match (cleanE e now).inn.findIdx? (hB p id) with
    | some i => if (hd (cleanE e now).inn i).ans = true then (Ep.none, Msg.none, 15)
      else (⟨e.next, e.out, (cleanE e now).used, (cleanE e now).inn.set i { hd (cleanE e now).inn i with ans := true, m := ackM m id }⟩, ackM m id, 0)
    | none => (Ep.none, Msg.none, 10)
  else (Ep.none, Msg.none, 1)
set_option maxHeartbeats 4000000 in
theorem answer_fn (e : Ep) (p id : Int) (m : Msg) (now : Int) (hb : BdE e) : Sp Try.prog 31 [aggE e, .val (.int .i64 p), .val (.int .i64 id), aggM m, .val (.int .i64 now)] [] (Is (resS (answerR e p id m now))) := by
  refine Sp.enter Try.func31 rfl _ Try.ntmps31 rfl (fun w0 R0 => ?_)
  refine AW.seq ?_
  refine AW.region ?_
  refine AO.opB (O.box rfl rfl rfl rfl rfl) rfl rfl rfl ?_
  intro B1
  refine AO.opB (O.box rfl rfl rfl rfl rfl) rfl rfl rfl ?_
  intro B2
  refine AO.opB (O.alloc rfl (by (dsimp only [zerosA, List.replicate, List.append, List.flatten, AV.cells, Value.cells, List.toList_toArray, List.map]; done)) (by rfl)) rfl rfl rfl ?_
  intro B3
  refine AO.opB (O.alloc rfl (by (dsimp only [zerosA, List.replicate, List.append, List.flatten, AV.cells, Value.cells, List.toList_toArray, List.map]; done)) (by rfl)) rfl rfl rfl ?_
  intro B4
  refine AO.op (O.assign rfl rfl) rfl rfl rfl ?_
  refine AO.nil ?_
  refine AQ.thenN ?_
  refine AW.seq ?_
  refine AW.region ?_
  refine AO.op (O.move rfl rfl) rfl rfl rfl ?_
  refine AO.op (O.fieldAddr rfl rfl) rfl rfl rfl ?_
  (refine AO.store (i := 2) rfl rfl rfl rfl rfl rfl (by rfl) (by rfl) (by rfl) (by (dsimp only [List.set, List.cons_append, List.nil_append, List.take, List.drop]; done)) (by (dsimp only [List.set, List.cons_append, List.nil_append, List.take, List.drop]; done)) ?_)
  refine AO.op (O.fieldAddr rfl rfl) rfl rfl rfl ?_
  (refine AO.store (i := 2) rfl rfl rfl rfl rfl rfl (by rfl) (by rfl) (by rfl) (by (dsimp only [List.set, List.cons_append, List.nil_append, List.take, List.drop]; done)) (by (dsimp only [List.set, List.cons_append, List.nil_append, List.take, List.drop]; done)) ?_)
  refine AO.nil ?_
  refine AQ.thenN ?_
  refine AW.seq ?_
  refine AW.seq ?_
  refine AW.region ?_
  (refine AO.op (O.loadK rfl rfl (by repeat (first | exact List.Mem.head _ | refine List.Mem.tail _ ?_)) (by (dsimp only [List.set, List.cons_append, List.nil_append, List.take, List.drop]; done)) (by rfl)) rfl rfl rfl ?_)
  refine AO.op (O.call rfl Try.func15 rfl rfl rfl (evalid_fn e hb)) rfl rfl rfl ?_
  refine AO.op (O.not rfl rfl (by rfl)) rfl rfl rfl ?_
  refine AO.op (O.move rfl rfl) rfl rfl rfl ?_
  refine AO.opG rfl rfl rfl (fun hp => O.move rfl rfl) ?_
  refine AO.opG rfl rfl rfl (fun hp => OpW.force 22 rfl (by exact hp) (O.call rfl Try.func43 rfl rfl rfl (timeOK_fn _))) ?_
  refine AO.opG rfl rfl rfl (fun hp => OpW.force 23 rfl (by exact hp) (O.not rfl rfl (by rfl))) ?_
  refine AO.op (O.pickOr rfl rfl rfl rfl (fun h => by exact congrArg (fun b => !b) h)) rfl rfl rfl ?_
  refine AO.op (O.move rfl rfl) rfl rfl rfl ?_
  refine AO.opG rfl rfl rfl (fun hp => O.move rfl rfl) ?_
  refine AO.opG rfl rfl rfl (fun hp => OpW.force 27 rfl (by exact hp) (O.call rfl Try.func37 rfl rfl rfl (peerOK_fn _))) ?_
  refine AO.opG rfl rfl rfl (fun hp => OpW.force 28 rfl (by exact hp) (O.not rfl rfl (by rfl))) ?_
  refine AO.op (O.pickOr rfl rfl rfl rfl (fun h => by exact congrArg (fun b => !b) h)) rfl rfl rfl ?_
  refine AO.op (O.move rfl rfl) rfl rfl rfl ?_
  (refine AO.opG rfl rfl rfl (fun hp => O.loadK rfl rfl (by repeat (first | exact List.Mem.head _ | refine List.Mem.tail _ ?_)) (by (dsimp only [List.set, List.cons_append, List.nil_append, List.take, List.drop]; done)) (by rfl)) ?_)
  refine AO.opG rfl rfl rfl (fun hp => OpW.force 32 rfl (by exact hp) (O.call rfl Try.func44 rfl rfl rfl (valid_fn (ackM m id)))) ?_
  refine AO.opG rfl rfl rfl (fun hp => OpW.force 33 rfl (by exact hp) (O.not rfl rfl (by rfl))) ?_
  refine AO.op (O.pickOr rfl rfl rfl rfl (fun h => by exact congrArg (fun b => !b) h)) rfl rfl rfl ?_
  refine AO.nil ?_
  refine AQ.thenN ?_
  refine AW.split rfl (fun h => ?_) (fun h => ?_) <;> (try simp only [decide_eq_true_eq, decide_eq_false_iff_not, beq_iff_eq, beq_eq_false_iff_ne, bne_iff_ne, bne_eq_false_iff_eq, Bool.not_eq_true', Bool.not_eq_false', Bool.not_eq_true, Bool.not_eq_false, ne_eq, Int.not_lt, Int.not_le, Bool.and_eq_true, Bool.or_eq_true, Bool.or_eq_false_iff, Bool.and_eq_false_imp, strOf_toList, Decidable.not_not] at h)
  · skip
    have e1 : answerR e p id m now = (Ep.none, Msg.none, 1) := if_neg (by
      rintro ⟨h1, h2, h3, h4⟩
      rcases h with ((h | h) | h) | h
      · exact h h1
      · exact h h2
      · exact h h3
      · exact h h4)
    refine AW.seq ?_
    refine AW.region ?_
    refine AO.op (O.build rfl rfl rfl (by rfl)) rfl rfl rfl ?_
    refine AO.op (O.build rfl rfl rfl (by rfl)) rfl rfl rfl ?_
    (refine AO.store (i := 1) rfl rfl rfl rfl rfl rfl (by rfl) (by rfl) (by rfl) (by (dsimp only [List.set, List.cons_append, List.nil_append, List.take, List.drop]; done)) (by (dsimp only [List.set, List.cons_append, List.nil_append, List.take, List.drop]; done)) ?_)
    (refine AO.store (i := 0) rfl rfl rfl rfl rfl rfl (by rfl) (by rfl) (by rfl) (by (dsimp only [List.set, List.cons_append, List.nil_append, List.take, List.drop]; done)) (by (dsimp only [List.set, List.cons_append, List.nil_append, List.take, List.drop]; done)) ?_)
    refine AO.op (O.assign rfl rfl) rfl rfl rfl ?_
    refine AO.nil ?_
    refine AQ.thenN ?_
    refine AW.ret ?_
    refine AQ.thenR ?_
    refine FnQ.coe (AQ.ret3G rfl (by exact ResAt.cell rfl (by repeat (first | exact List.Mem.head _ | refine List.Mem.tail _ ?_)) (by (dsimp only [List.set, List.cons_append, List.nil_append, List.take, List.drop]; done)) (by rfl)) (by exact ResAt.cell rfl (by repeat (exact List.Mem.head _)) (by (dsimp only [List.set, List.cons_append, List.nil_append, List.take, List.drop]; done)) (by rfl)) (by exact ResAt.tmp rfl) ⟨_, List.nil_sublist _, .nil⟩ ⟨rfl, rfl⟩) (Coe.tup (by (repeat (first | exact CoeL.nil | refine CoeL.cons Coe.rfl ?_ | refine CoeL.cons Coe.nil ?_ | refine CoeL.cons (Coe.agg ?_) ?_)); done)) (ret3S e1 rfl)
  · skip
    obtain ⟨⟨⟨hv, ht⟩, hp⟩, hvm⟩ := h
    have hok : RecvOk e p (ackM m id) now := ⟨hv, ht, hp, hvm⟩
    have hsm := ValE.sm hv
    have hmm : SmM (ackM m id) := ValM.sm hvm
    have hv4 := hv.2.2.2.1
    have hci := clean_inn e now
    have h0 : answerR e p id m now = _ := if_pos hok
    have hco : (cleanE e now).out = e.out := rfl
    have hcn : (cleanE e now).next = e.next := rfl
    refine AW.skip ?_
    refine AQ.thenN ?_
    refine AW.seq ?_
    refine AW.region ?_
    (refine AO.op (O.loadK rfl rfl (by repeat (first | exact List.Mem.head _ | refine List.Mem.tail _ ?_)) (by (dsimp only [List.set, List.cons_append, List.nil_append, List.take, List.drop]; done)) (by rfl)) rfl rfl rfl ?_)
    refine AO.op (O.move rfl rfl) rfl rfl rfl ?_
    refine AO.opN (O.call rfl Try.func45 rfl rfl rfl (cleaned_fn e now hsm)) rfl rfl rfl ?_
    rintro _ _ ⟨V15, V25, V35, hV15, hV25, hV35, rfl, rfl⟩
    simp only [List.cons_append, List.nil_append]
    (refine AO.store (i := 6) rfl rfl rfl rfl rfl rfl (by (simp [AV.cells, AV.one, roB, roI, roO, show ∀ k z, (Value.int k z).oneCell' = true from fun _ _ => rfl, show ∀ k, (Value.bool k).oneCell' = true from fun _ => rfl, *]; done)) (by rfl) (by rfl) (by (dsimp only [List.set, List.cons_append, List.nil_append, List.take, List.drop]; done)) (by (dsimp only [List.set, List.cons_append, List.nil_append, List.take, List.drop]; done)) ?_)
    refine AO.nil ?_
    refine AQ.thenN ?_
    refine AW.seq ?_
    refine AW.seq ?_
    refine AW.region ?_
    refine AO.op (O.fieldAddr rfl rfl) rfl rfl rfl ?_
    refine AO.op (O.load rfl rfl (by repeat (first | exact List.Mem.head _ | refine List.Mem.tail _ ?_)) (by rfl)) rfl rfl rfl ?_
    refine AO.op (O.lenRow rfl rfl (by repeat (exact List.Mem.head _))) rfl rfl rfl ?_
    refine AO.op (O.move rfl rfl) rfl rfl rfl ?_
    refine AO.nil ?_
    refine AQ.thenN ?_
    refine AW.block ?_
    rw [← hco, ← hcn] at h0
    generalize cleanE e now = c at *
    refine AW.loopK [(1, _), (2, _), (5, _), (8, _), (10, _), (11, _), (43, _)] (fun nn E H => ∃ (k : Nat), (k ≤ c.inn.length) ∧ (∀ q, q < k → hB p id (hd c.inn q) = false) ∧ nn = c.inn.length - k ∧ E = [(44, .val (.int .i64 (k : Int)))] ∧ H = [.row V35 63 10 c.inn.length (hdsA c.inn), .row V25 60 3 c.used.length (ussA c.used), .row V15 71 9 c.out.length (wtsA c.out), .blk B4 31 6 [.val (.int .i64 0), .val (.int .i64 0), .val (.int .i64 0), .val nilS, .val nilS, .val nilS], .blk B3 26 4 [.val (.int .i64 0), .val nilS, .val nilS, .val nilS], .blk B2 31 6 [.val (.int .i64 2), .val (.int .i64 m.code), .val (.int .i64 id), roB m.tok, roO m.opts, roB m.pay], .blk B1 26 4 [.val (.int .i64 c.next), .val V15, .val V25, .val V35]]) _ (⟨0, by omega, fun q hq => absurd hq (by omega), rfl, rfl, rfl⟩) (by repeat (first | exact envNil | refine envCons rfl ?_)) (by repeat (first | exact envNil | refine envCons rfl ?_)) (by repeat (first | exact subPnil | refine subPcons 0 rfl ?_)) ?_
    rintro nn E H ⟨k, hk1, hn, rfl, rfl, rfl⟩
    dsimp only [List.cons_append, List.nil_append]
    refine AW.seq ?_
    refine AW.region ?_
    refine AO.op (O.lss rfl rfl rfl (by rfl)) rfl rfl rfl ?_
    refine AO.nil ?_
    refine AQ.thenN ?_
    refine AW.seq ?_
    refine AW.split rfl (fun hlt => ?_) (fun hlt => ?_) <;> (try simp only [decide_eq_true_eq, decide_eq_false_iff_not, beq_iff_eq, beq_eq_false_iff_ne, bne_iff_ne, bne_eq_false_iff_eq, Bool.not_eq_true', Bool.not_eq_false', Bool.not_eq_true, Bool.not_eq_false, ne_eq, Int.not_lt, Int.not_le, Bool.and_eq_true, Bool.or_eq_true, Bool.or_eq_false_iff, Bool.and_eq_false_imp, strOf_toList, Decidable.not_not] at hlt)
    · skip
      have hk : k < c.inn.length := by omega
      refine AW.g ?_
      refine G.openRow 0 rfl (by omega) (fun b cap hc1 hc2 hxs hVe => ?_)
      refine AW.u ?_
      subst hVe
      dsimp only [List.set]
      refine AW.skip ?_
      refine AQ.thenN ?_
      refine AW.seq ?_
      refine AW.block ?_
      refine AW.seq ?_
      refine AW.region ?_
      refine AO.op (O.move rfl rfl) rfl rfl rfl ?_
      refine AO.op (O.assign rfl rfl) rfl rfl rfl ?_
      refine AO.nil ?_
      refine AQ.thenN ?_
      refine AW.seq ?_
      refine AW.region ?_
      refine AO.op (O.fieldAddr rfl rfl) rfl rfl rfl ?_
      refine AO.op (O.load rfl rfl (by repeat (first | exact List.Mem.head _ | refine List.Mem.tail _ ?_)) (by rfl)) rfl rfl rfl ?_
      refine AO.op (O.move rfl rfl) rfl rfl rfl ?_
      refine AO.op (O.idxV rfl rfl rfl ⟨(by omega), (by omega)⟩) rfl rfl rfl ?_
      refine AO.op (O.assign rfl rfl) rfl rfl rfl ?_
      refine AO.nil ?_
      refine AQ.thenN ?_
      refine AW.seq ?_
      refine AW.seq ?_
      refine AW.region ?_
      refine AO.op (O.move rfl rfl) rfl rfl rfl ?_
      refine AO.op (O.nilCheck rfl rfl) rfl rfl rfl ?_
      refine AO.op (O.fieldAddr rfl rfl) rfl rfl rfl ?_
      refine AO.op (O.load rfl rfl (by repeat (exact List.Mem.head _)) (by exact cellHi hk 0 (by omega) (by omega) rfl)) rfl rfl rfl ?_
      refine AO.op (O.move rfl rfl) rfl rfl rfl ?_
      refine AO.op (O.neq rfl rfl rfl (by rfl)) rfl rfl rfl ?_
      refine AO.op (O.move rfl rfl) rfl rfl rfl ?_
      refine AO.opG rfl rfl rfl (fun hp => O.move rfl rfl) ?_
      refine AO.opG rfl rfl rfl (fun hp => OpW.force 58 rfl (by exact hp) (O.nilCheck rfl rfl)) ?_
      refine AO.opG rfl rfl rfl (fun hp => OpW.force 59 rfl (by exact hp) (O.fieldAddr rfl rfl)) ?_
      refine AO.opG rfl rfl rfl (fun hp => OpW.force 60 rfl (by exact hp) (O.load rfl rfl (by repeat (exact List.Mem.head _)) (by exact cellHi hk 1 (by omega) (by omega) rfl))) ?_
      refine AO.opG rfl rfl rfl (fun hp => O.move rfl rfl) ?_
      refine AO.opG rfl rfl rfl (fun hp => OpW.force 61 rfl (by exact hp) (OpW.force 62 rfl (by exact hp) (O.neq rfl rfl rfl (by rfl)))) ?_
      refine AO.op (O.pickOr rfl rfl rfl rfl (fun h => by exact congrArg (fun b => !b) h)) rfl rfl rfl ?_
      refine AO.nil ?_
      refine AQ.thenN ?_
      refine AW.split rfl (fun h64 => ?_) (fun h64 => ?_) <;> (try simp only [decide_eq_true_eq, decide_eq_false_iff_not, beq_iff_eq, beq_eq_false_iff_ne, bne_iff_ne, bne_eq_false_iff_eq, Bool.not_eq_true', Bool.not_eq_false', Bool.not_eq_true, Bool.not_eq_false, ne_eq, Int.not_lt, Int.not_le, Bool.and_eq_true, Bool.or_eq_true, Bool.or_eq_false_iff, Bool.and_eq_false_imp, strOf_toList, Decidable.not_not] at h64)
      · skip
        refine AW.exit ?_
        refine AQ.thenX ?_
        refine AQ.blockX rfl ?_
        refine AQ.thenN ?_
        refine AW.region ?_
        refine AO.op (O.add rfl rfl rfl (by exact wI64 (by omega))) rfl rfl rfl ?_
        refine AO.op (O.move rfl rfl) rfl rfl rfl ?_
        refine AO.nil ?_
        refine AQ.g ?_
        refine G.closeRow (b := b) (sz := 10) (n := c.inn.length) (cap := cap) 0 rfl hxs rfl hc1 hc2 ?_
        refine AQ.u ?_
        dsimp only [List.set]
        refine AQ.loopKN _ _ _ (by omega) (⟨k + 1, by omega, fun q hq => (Nat.lt_or_ge q k).elim (hn q) (fun h => by rw [show q = k by omega, hB, Bool.eq_false_iff, ne_eq, Bool.and_eq_true, beq_iff_eq, beq_iff_eq]; exact fun ⟨a, b⟩ => h64.elim (fun f => f a) (fun f => f b)), rfl, rfl, rfl⟩) (by repeat (first | exact envNil | refine envCons rfl ?_)) (by repeat (first | exact envNil | refine envCons rfl ?_)) (by repeat (first | exact subPnil | refine subPcons 0 rfl ?_))
      · skip
        have e0 := fi_some (hB p id) Hd.none hk (by rw [hB, Bool.and_eq_true, beq_iff_eq, beq_iff_eq]; exact h64) hn
        rw [e0] at h0
        refine AW.skip ?_
        refine AQ.thenN ?_
        refine AW.seq ?_
        refine AW.seq ?_
        refine AW.region ?_
        refine AO.op (O.move rfl rfl) rfl rfl rfl ?_
        refine AO.op (O.nilCheck rfl rfl) rfl rfl rfl ?_
        refine AO.op (O.fieldAddr rfl rfl) rfl rfl rfl ?_
        refine AO.op (O.load rfl rfl (by repeat (exact List.Mem.head _)) (by exact cellHi hk 3 (by omega) (by omega) rfl)) rfl rfl rfl ?_
        refine AO.nil ?_
        refine AQ.thenN ?_
        refine AW.split rfl (fun h68 => ?_) (fun h68 => ?_) <;> (try simp only [decide_eq_true_eq, decide_eq_false_iff_not, beq_iff_eq, beq_eq_false_iff_ne, bne_iff_ne, bne_eq_false_iff_eq, Bool.not_eq_true', Bool.not_eq_false', Bool.not_eq_true, Bool.not_eq_false, ne_eq, Int.not_lt, Int.not_le, Bool.and_eq_true, Bool.or_eq_true, Bool.or_eq_false_iff, Bool.and_eq_false_imp, strOf_toList, Decidable.not_not] at h68)
        · skip
          have e1 : answerR e p id m now = (Ep.none, Msg.none, 15) := h0.trans (if_pos h68)
          refine AW.seq ?_
          refine AW.region ?_
          refine AO.op (O.build rfl rfl rfl (by rfl)) rfl rfl rfl ?_
          refine AO.op (O.build rfl rfl rfl (by rfl)) rfl rfl rfl ?_
          (refine AO.store (i := 4) rfl rfl rfl rfl rfl rfl (by rfl) (by rfl) (by rfl) (by (dsimp only [List.set, List.cons_append, List.nil_append, List.take, List.drop]; done)) (by (dsimp only [List.set, List.cons_append, List.nil_append, List.take, List.drop]; done)) ?_)
          (refine AO.store (i := 3) rfl rfl rfl rfl rfl rfl (by rfl) (by rfl) (by rfl) (by (dsimp only [List.set, List.cons_append, List.nil_append, List.take, List.drop]; done)) (by (dsimp only [List.set, List.cons_append, List.nil_append, List.take, List.drop]; done)) ?_)
          refine AO.op (O.assign rfl rfl) rfl rfl rfl ?_
          refine AO.nil ?_
          refine AQ.thenN ?_
          refine AW.ret ?_
          refine AQ.thenR ?_
          refine AQ.blockR ?_
          refine AQ.thenR ?_
          refine AQ.loopR ?_
          refine AQ.blockR ?_
          refine AQ.thenR ?_
          refine FnQ.coe (AQ.ret3G rfl (by exact ResAt.cell rfl (by repeat (first | exact List.Mem.head _ | refine List.Mem.tail _ ?_)) (by (dsimp only [List.set, List.cons_append, List.nil_append, List.take, List.drop]; done)) (by rfl)) (by exact ResAt.cell rfl (by repeat (first | exact List.Mem.head _ | refine List.Mem.tail _ ?_)) (by (dsimp only [List.set, List.cons_append, List.nil_append, List.take, List.drop]; done)) (by rfl)) (by exact ResAt.tmp rfl) ⟨_, List.nil_sublist _, .nil⟩ ⟨rfl, rfl⟩) (Coe.tup (by (repeat (first | exact CoeL.nil | refine CoeL.cons Coe.rfl ?_ | refine CoeL.cons Coe.nil ?_ | refine CoeL.cons (Coe.agg ?_) ?_)); done)) (ret3S e1 rfl)
        · skip
          have e1 : answerR e p id m now = (⟨c.next, c.out, c.used, c.inn.set k { hd c.inn k with ans := true, m := ackM m id }⟩, ackM m id, 0) := h0.trans (if_neg (by rw [h68]; simp))
          refine AW.skip ?_
          refine AQ.thenN ?_
          refine AW.seq ?_
          refine AW.region ?_
          refine AO.op (O.move rfl rfl) rfl rfl rfl ?_
          refine AO.op (O.move rfl rfl) rfl rfl rfl ?_
          (refine AO.op (O.loadK rfl rfl (by repeat (first | exact List.Mem.head _ | refine List.Mem.tail _ ?_)) (by (dsimp only [List.set, List.cons_append, List.nil_append, List.take, List.drop]; done)) (by rfl)) rfl rfl rfl ?_)
          refine AO.op (O.call rfl Try.func47 rfl rfl rfl (message_fn (ackM m id) hmm)) rfl rfl rfl ?_
          refine AO.op (O.nilCheck rfl rfl) rfl rfl rfl ?_
          refine AO.op (O.fieldAddr rfl rfl) rfl rfl rfl ?_
          (refine AO.store (i := 0) rfl rfl rfl rfl rfl rfl (by rfl) (by rfl) (by exact Nat.ble_eq_true_of_le (by simp only [hdsA_len, List.length_set]; omega)) (by exact splice_ans hk (by omega)) (by (dsimp only [List.set, List.cons_append, List.nil_append, List.take, List.drop]; done)) ?_)
          refine AO.op (O.nilCheck rfl rfl) rfl rfl rfl ?_
          refine AO.op (O.fieldAddr rfl rfl) rfl rfl rfl ?_
          (refine AO.store (i := 0) rfl rfl rfl rfl rfl rfl (by rfl) (by rfl) (by exact Nat.ble_eq_true_of_le (by simp only [hdsA_len, List.length_set]; omega)) (by exact splice_msg hk (ackM m id) (by omega)) (by (dsimp only [List.set, List.cons_append, List.nil_append, List.take, List.drop]; done)) ?_)
          refine AO.nil ?_
          refine AQ.thenN ?_
          refine AW.seq ?_
          refine AW.regionD 3 (by kernel_rfl) (by kernel_rfl) ?_
          simp only [List.take_succ_cons, List.take_zero, List.drop_succ_cons, List.drop_zero]
          (refine FA.op (O.loadK rfl rfl (by repeat (first | exact List.Mem.head _ | refine List.Mem.tail _ ?_)) (by (dsimp only [List.set, List.cons_append, List.nil_append, List.take, List.drop]; done)) (by rfl)) rfl rfl rfl rfl ?_)
          (refine FA.op (O.loadK rfl rfl (by repeat (first | exact List.Mem.head _ | refine List.Mem.tail _ ?_)) (by (dsimp only [List.set, List.cons_append, List.nil_append, List.take, List.drop]; done)) (by rfl)) rfl rfl rfl rfl ?_)
          refine FA.op (O.call rfl Try.func47 rfl rfl rfl (message_fn (ackM m id) hmm)) rfl rfl rfl rfl ?_
          refine FA.nil ?_
          simp only [chosen, List.nil_append, List.cons_append, List.append_nil]
          (refine AO.store (i := 4) rfl rfl rfl rfl rfl rfl (by (simp [AV.cells, AV.one, roB, roI, roO, show ∀ k z, (Value.int k z).oneCell' = true from fun _ _ => rfl, show ∀ k, (Value.bool k).oneCell' = true from fun _ => rfl, *]; done)) (by rfl) (by rfl) (by rfl) (by (dsimp only [List.set, List.cons_append, List.nil_append, List.take, List.drop]; done)) ?_)
          (refine AO.store (i := 3) rfl rfl rfl rfl rfl rfl (by rfl) (by rfl) (by rfl) (by rfl) (by (dsimp only [List.set, List.cons_append, List.nil_append, List.take, List.drop]; done)) ?_)
          refine AO.op (O.assign rfl rfl) rfl rfl rfl ?_
          refine AO.nil ?_
          refine AQ.thenN ?_
          refine AW.ret ?_
          refine AQ.blockR ?_
          refine AQ.thenR ?_
          refine AQ.loopR ?_
          refine AQ.blockR ?_
          refine AQ.thenR ?_
          refine AQ.g ?_
          refine G.closeRow (b := b) (sz := 10) (n := c.inn.length) (cap := cap) 0 rfl (by rw [hdsA_len, List.length_set]) rfl hc1 hc2 ?_
          refine AQ.u ?_
          dsimp only [List.set]
          refine AQ.g ?_
          refine G.freezeCell 0 3 3 rfl rfl rfl ?_
          refine AQ.u ?_
          dsimp only [List.eraseIdx, List.set]
          refine AQ.g ?_
          refine G.freezeCell 0 2 2 rfl rfl rfl ?_
          refine AQ.u ?_
          dsimp only [List.eraseIdx, List.set]
          refine AQ.g ?_
          refine G.freezeCell 0 1 1 rfl rfl rfl ?_
          refine AQ.u ?_
          dsimp only [List.eraseIdx, List.set]
          refine FnQ.coe (AQ.ret3G rfl (by exact ResAt.cell rfl (by repeat (first | exact List.Mem.head _ | refine List.Mem.tail _ ?_)) (by (dsimp only [List.set, List.cons_append, List.nil_append, List.take, List.drop]; done)) (by rfl)) (by exact ResAt.cell rfl (by repeat (exact List.Mem.head _)) (by (dsimp only [List.set, List.cons_append, List.nil_append, List.take, List.drop]; done)) (by rfl)) (by exact ResAt.tmp rfl) ⟨_, List.nil_sublist _, .nil⟩ ⟨rfl, rfl⟩) (Coe.tup (by (repeat (first | exact CoeL.nil | refine CoeL.cons Coe.rfl ?_)); done)) (ret3S e1 (aggE_tup (aggE_of (e := ⟨_, _, _, _⟩) rfl rfl rfl rfl List.length_set.symm rfl) _))
    · skip
      obtain rfl : k = c.inn.length := by omega
      rw [fi_none (hB p id) Hd.none hn] at h0
      refine AW.exit ?_
      refine AQ.thenX ?_
      refine AQ.loopX ?_
      refine AQ.blockX rfl ?_
      refine AQ.thenN ?_
      refine AW.seq ?_
      refine AW.region ?_
      refine AO.op (O.build rfl rfl rfl (by rfl)) rfl rfl rfl ?_
      refine AO.op (O.build rfl rfl rfl (by rfl)) rfl rfl rfl ?_
      (refine AO.store (i := 4) rfl rfl rfl rfl rfl rfl (by rfl) (by rfl) (by rfl) (by (dsimp only [List.set, List.cons_append, List.nil_append, List.take, List.drop]; done)) (by (dsimp only [List.set, List.cons_append, List.nil_append, List.take, List.drop]; done)) ?_)
      (refine AO.store (i := 3) rfl rfl rfl rfl rfl rfl (by rfl) (by rfl) (by rfl) (by (dsimp only [List.set, List.cons_append, List.nil_append, List.take, List.drop]; done)) (by (dsimp only [List.set, List.cons_append, List.nil_append, List.take, List.drop]; done)) ?_)
      refine AO.op (O.assign rfl rfl) rfl rfl rfl ?_
      refine AO.nil ?_
      refine AQ.thenN ?_
      refine AW.ret ?_
      refine FnQ.coe (AQ.ret3G rfl (by exact ResAt.cell rfl (by repeat (first | exact List.Mem.head _ | refine List.Mem.tail _ ?_)) (by (dsimp only [List.set, List.cons_append, List.nil_append, List.take, List.drop]; done)) (by rfl)) (by exact ResAt.cell rfl (by repeat (first | exact List.Mem.head _ | refine List.Mem.tail _ ?_)) (by (dsimp only [List.set, List.cons_append, List.nil_append, List.take, List.drop]; done)) (by rfl)) (by exact ResAt.tmp rfl) ⟨_, List.nil_sublist _, .nil⟩ ⟨rfl, rfl⟩) (Coe.tup (by (repeat (first | exact CoeL.nil | refine CoeL.cons Coe.rfl ?_ | refine CoeL.cons Coe.nil ?_ | refine CoeL.cons (Coe.agg ?_) ?_)); done)) (ret3S h0 rfl)
end Go.Proofs.Ytdnmilmcdbgppaa.By

namespace Go.Proofs.Ytdnmilmcdbgppaa.By
open Go.RowKit L A
set_option linter.unusedVariables false
set_option maxRecDepth 20000
set_option linter.unusedSimpArgs false
attribute [local irreducible] AW AQ AO
structure TinyE (e : Ep) : Prop where
  o : e.out.length ≤ 100
  u : e.used.length ≤ 100
  i : e.inn.length ≤ 100
  om : ∀ w ∈ e.out, SmM w.m
  im : ∀ h ∈ e.inn, SmM h.m
theorem TinyE.sm {e : Ep} (h : TinyE e) : SmE e := ⟨Nat.le_trans h.o (by omega), Nat.le_trans h.u (by omega), Nat.le_trans h.i (by omega), h.om, h.im⟩
theorem SmM.bd {m : Msg} (h : SmM m) : BdM m := ⟨h.1, Nat.le_trans h.2.2.1 (by omega), h.2.1⟩
theorem SmE.bd {e : Ep} (h : SmE e) : BdE e := ⟨Nat.le_trans h.o (by omega), Nat.le_trans h.u (by omega), Nat.le_trans h.i (by omega), fun x hx => (h.im x hx).bd⟩
theorem SmM.op {m : Msg} (h : SmM m) : m.opts.length ≤ 140737488355328 := Nat.le_trans h.2.2.1 (by omega)
/-! ### The example -/
def x1 : Ep × Msg × Int := sendR ⟨5, [], [], []⟩ 1 ⟨0, 1, 0, [], [], []⟩ 0
theorem x1_is : x1 = (⟨6, [⟨1, ⟨0, 1, 5, [], [], []⟩, 2, 1⟩], [⟨1, 5, 128⟩], []⟩, ⟨0, 1, 5, [], [], []⟩, 0) := by decide +kernel
def x2 : Ep × List Wt × List Wt × Int := tickR ⟨6, [⟨1, ⟨0, 1, 5, [], [], []⟩, 2, 1⟩], [⟨1, 5, 128⟩], []⟩ 2
theorem x2_is : x2 = (⟨6, [⟨1, ⟨0, 1, 5, [], [], []⟩, 6, 2⟩], [⟨1, 5, 128⟩], []⟩, [⟨1, ⟨0, 1, 5, [], [], []⟩, 6, 2⟩], [], 0) := by decide +kernel
def x3 : Ep × Int × Msg × Int := recvR ⟨6, [⟨1, ⟨0, 1, 5, [], [], []⟩, 6, 2⟩], [⟨1, 5, 128⟩], []⟩ 1 ⟨0, 0, 7, [], [], []⟩ 3
theorem x3_is : x3 = (⟨6, [⟨1, ⟨0, 1, 5, [], [], []⟩, 6, 2⟩], [⟨1, 5, 128⟩], []⟩, 5, ⟨3, 0, 7, [], [], []⟩, 0) := by decide +kernel
theorem bd_of {e : Ep} (h : e.out.length ≤ 100 ∧ e.used.length ≤ 100 ∧ e.inn = []) : BdE e := ⟨by omega, by omega, by rw [h.2.2]; simp, by rw [h.2.2]; simp⟩
theorem ex1_fn : Sp Try.prog 18 [aggE ⟨5, [], [], []⟩, .val (.int .i64 1), aggM ⟨0, 1, 0, [], [], []⟩, .val (.int .i64 0)] [] (Is (resS (⟨6, [⟨1, ⟨0, 1, 5, [], [], []⟩, 2, 1⟩], [⟨1, 5, 128⟩], []⟩, ⟨0, 1, 5, [], [], []⟩, 0))) := by
  rw [← x1_is]; exact send_fn _ _ _ _ (bd_of ⟨by simp, by simp, rfl⟩)
theorem ex2_fn : Sp Try.prog 22 [aggE ⟨6, [⟨1, ⟨0, 1, 5, [], [], []⟩, 2, 1⟩], [⟨1, 5, 128⟩], []⟩, .val (.int .i64 2)] [] (Is (resT (⟨6, [⟨1, ⟨0, 1, 5, [], [], []⟩, 6, 2⟩], [⟨1, 5, 128⟩], []⟩, [⟨1, ⟨0, 1, 5, [], [], []⟩, 6, 2⟩], [], 0))) := by
  rw [← x2_is]; exact tick_fn _ _ (bd_of ⟨by simp, by simp, rfl⟩)
theorem ex3_fn : Sp Try.prog 26 [aggE ⟨6, [⟨1, ⟨0, 1, 5, [], [], []⟩, 6, 2⟩], [⟨1, 5, 128⟩], []⟩, .val (.int .i64 1), aggM ⟨0, 0, 7, [], [], []⟩, .val (.int .i64 3)] [] (Is (resV (⟨6, [⟨1, ⟨0, 1, 5, [], [], []⟩, 6, 2⟩], [⟨1, 5, 128⟩], []⟩, 5, ⟨3, 0, 7, [], [], []⟩, 0))) := by
  rw [← x3_is]; exact recv_fn _ _ _ _ (bd_of ⟨by simp, by simp, rfl⟩)
set_option maxHeartbeats 4000000 in
theorem awake17_fn : Sp Try.prog 11 [] [] (Is (.val (.bool true))) := by
  refine Sp.enter Try.func11 rfl _ Try.ntmps11 rfl (fun w0 R0 => ?_)
  refine AW.seq ?_
  refine AW.region ?_
  refine AO.op (O.assign rfl rfl) rfl rfl rfl ?_
  refine AO.nil ?_
  refine AQ.thenN ?_
  refine AW.seq ?_
  refine AW.region ?_
  refine AO.op (O.build rfl rfl rfl (by rfl)) rfl rfl rfl ?_
  refine AO.op (O.build rfl rfl rfl (by rfl)) rfl rfl rfl ?_
  (refine AO.op (O.callC rfl Try.func18 rfl rfl rfl (ex1_fn) (by (repeat (first | exact CoeL.nil | refine CoeL.cons Coe.rfl ?_ | refine CoeL.cons Coe.nil ?_ | refine CoeL.cons (Coe.agg ?_) ?_)); done)) rfl rfl rfl ?_)
  refine AO.op (O.move rfl rfl) rfl rfl rfl ?_
  refine AO.op (O.extract rfl rfl rfl) rfl rfl rfl ?_
  refine AO.op (O.extract rfl rfl rfl) rfl rfl rfl ?_
  refine AO.op (O.extract rfl rfl rfl) rfl rfl rfl ?_
  refine AO.opB (O.alloc rfl (by (dsimp only [zerosA, List.replicate, List.append, List.flatten, AV.cells, Value.cells, List.toList_toArray, List.map]; done)) (by rfl)) rfl rfl rfl ?_
  intro B1
  refine AO.opB (O.alloc rfl (by (dsimp only [zerosA, List.replicate, List.append, List.flatten, AV.cells, Value.cells, List.toList_toArray, List.map]; done)) (by rfl)) rfl rfl rfl ?_
  intro B2
  (refine AO.store (i := 1) rfl rfl rfl rfl rfl rfl (by rfl) (by rfl) (by rfl) (by (dsimp only [List.set, List.append, List.cons_append, List.nil_append, AV.cells, splice, List.take, List.drop, Nat.reduceAdd]; done)) (by (dsimp only [List.set, List.append, List.cons_append, List.nil_append, AV.cells, splice, List.take, List.drop, Nat.reduceAdd]; done)) ?_)
  (refine AO.store (i := 0) rfl rfl rfl rfl rfl rfl (by rfl) (by rfl) (by rfl) (by (dsimp only [List.set, List.append, List.cons_append, List.nil_append, AV.cells, splice, List.take, List.drop, Nat.reduceAdd]; done)) (by (dsimp only [List.set, List.append, List.cons_append, List.nil_append, AV.cells, splice, List.take, List.drop, Nat.reduceAdd]; done)) ?_)
  refine AO.op (O.assign rfl rfl) rfl rfl rfl ?_
  refine AO.nil ?_
  refine AQ.thenN ?_
  refine AW.seq ?_
  refine AW.region ?_
  (refine AO.op (O.loadK rfl rfl (by repeat (first | exact List.Mem.head _ | refine List.Mem.tail _ ?_)) (by (dsimp only [List.set, List.append, List.cons_append, List.nil_append, AV.cells, splice, List.take, List.drop, Nat.reduceAdd]; done)) (by rfl)) rfl rfl rfl ?_)
  refine AO.op (O.call rfl Try.func22 rfl rfl rfl (ex2_fn)) rfl rfl rfl ?_
  refine AO.op (O.move rfl rfl) rfl rfl rfl ?_
  refine AO.op (O.extract rfl rfl rfl) rfl rfl rfl ?_
  refine AO.op (O.extract rfl rfl rfl) rfl rfl rfl ?_
  refine AO.op (O.extract rfl rfl rfl) rfl rfl rfl ?_
  refine AO.op (O.extract rfl rfl rfl) rfl rfl rfl ?_
  (refine AO.store (i := 1) rfl rfl rfl rfl rfl rfl (by rfl) (by rfl) (by rfl) (by (dsimp only [List.set, List.append, List.cons_append, List.nil_append, AV.cells, splice, List.take, List.drop, Nat.reduceAdd]; done)) (by (dsimp only [List.set, List.append, List.cons_append, List.nil_append, AV.cells, splice, List.take, List.drop, Nat.reduceAdd]; done)) ?_)
  refine AO.op (O.assign rfl rfl) rfl rfl rfl ?_
  refine AO.op (O.assign rfl rfl) rfl rfl rfl ?_
  refine AO.op (O.assign rfl rfl) rfl rfl rfl ?_
  refine AO.nil ?_
  refine AQ.thenN ?_
  refine AW.seq ?_
  refine AW.region ?_
  (refine AO.op (O.loadK rfl rfl (by repeat (first | exact List.Mem.head _ | refine List.Mem.tail _ ?_)) (by (dsimp only [List.set, List.append, List.cons_append, List.nil_append, AV.cells, splice, List.take, List.drop, Nat.reduceAdd]; done)) (by rfl)) rfl rfl rfl ?_)
  refine AO.op (O.build rfl rfl rfl (by rfl)) rfl rfl rfl ?_
  (refine AO.op (O.callC rfl Try.func26 rfl rfl rfl (ex3_fn) (by (repeat (first | exact CoeL.nil | refine CoeL.cons Coe.rfl ?_ | refine CoeL.cons Coe.nil ?_ | refine CoeL.cons (Coe.agg ?_) ?_)); done)) rfl rfl rfl ?_)
  refine AO.op (O.move rfl rfl) rfl rfl rfl ?_
  refine AO.op (O.extract rfl rfl rfl) rfl rfl rfl ?_
  refine AO.op (O.extract rfl rfl rfl) rfl rfl rfl ?_
  refine AO.op (O.extract rfl rfl rfl) rfl rfl rfl ?_
  refine AO.op (O.extract rfl rfl rfl) rfl rfl rfl ?_
  refine AO.opB (O.alloc rfl (by (dsimp only [zerosA, List.replicate, List.append, List.flatten, AV.cells, Value.cells, List.toList_toArray, List.map]; done)) (by rfl)) rfl rfl rfl ?_
  intro B3
  refine AO.opB (O.alloc rfl (by (dsimp only [zerosA, List.replicate, List.append, List.flatten, AV.cells, Value.cells, List.toList_toArray, List.map]; done)) (by rfl)) rfl rfl rfl ?_
  intro B4
  (refine AO.store (i := 1) rfl rfl rfl rfl rfl rfl (by rfl) (by rfl) (by rfl) (by (dsimp only [List.set, List.append, List.cons_append, List.nil_append, AV.cells, splice, List.take, List.drop, Nat.reduceAdd]; done)) (by (dsimp only [List.set, List.append, List.cons_append, List.nil_append, AV.cells, splice, List.take, List.drop, Nat.reduceAdd]; done)) ?_)
  refine AO.op (O.assign rfl rfl) rfl rfl rfl ?_
  (refine AO.store (i := 0) rfl rfl rfl rfl rfl rfl (by rfl) (by rfl) (by rfl) (by (dsimp only [List.set, List.append, List.cons_append, List.nil_append, AV.cells, splice, List.take, List.drop, Nat.reduceAdd]; done)) (by (dsimp only [List.set, List.append, List.cons_append, List.nil_append, AV.cells, splice, List.take, List.drop, Nat.reduceAdd]; done)) ?_)
  refine AO.op (O.assign rfl rfl) rfl rfl rfl ?_
  refine AO.nil ?_
  refine AQ.thenN ?_
  refine AW.seq ?_
  refine AW.region ?_
  refine AO.op (O.move rfl rfl) rfl rfl rfl ?_
  refine AO.op (O.eql rfl rfl rfl (by rfl)) rfl rfl rfl ?_
  refine AO.op (O.move rfl rfl) rfl rfl rfl ?_
  refine AO.opG rfl rfl rfl (fun hp => O.fieldAddr rfl rfl) ?_
  refine AO.opG rfl rfl rfl (fun hp => OpW.force 36 rfl (by exact hp) (O.load rfl rfl (by repeat (first | exact List.Mem.head _ | refine List.Mem.tail _ ?_)) (by rfl))) ?_
  refine AO.opG rfl rfl rfl (fun hp => OpW.force 37 rfl (by exact hp) (O.eql rfl rfl rfl (by exact beq_iff_eq.2 (by omega)))) ?_
  refine AO.op (O.pickAnd rfl rfl rfl rfl (fun h => by exact h)) rfl rfl rfl ?_
  refine AO.op (O.move rfl rfl) rfl rfl rfl ?_
  refine AO.opG rfl rfl rfl (fun hp => O.move rfl rfl) ?_
  refine AO.opG rfl rfl rfl (fun hp => OpW.force 41 rfl (by exact hp) (O.eql rfl rfl rfl (by assumption))) ?_
  refine AO.op (O.pickAnd rfl rfl rfl rfl (fun h => by exact h)) rfl rfl rfl ?_
  refine AO.op (O.move rfl rfl) rfl rfl rfl ?_
  refine AO.opG rfl rfl rfl (fun hp => O.move rfl rfl) ?_
  refine AO.opG rfl rfl rfl (fun hp => OpW.force 45 rfl (by exact hp) (O.lenR rfl rfl)) ?_
  refine AO.opG rfl rfl rfl (fun hp => OpW.force 46 rfl (by exact hp) (O.eql rfl rfl rfl (by assumption))) ?_
  refine AO.op (O.pickAnd rfl rfl rfl rfl (fun h => by exact h)) rfl rfl rfl ?_
  refine AO.op (O.move rfl rfl) rfl rfl rfl ?_
  refine AO.opG rfl rfl rfl (fun hp => O.move rfl rfl) ?_
  (refine AO.opG rfl rfl rfl (fun hp => OpW.force 50 rfl (by exact hp) (O.idxR rfl rfl rfl ⟨(by omega), (by (simp only [List.length_take, List.length_drop, List.length_append, List.length_cons, List.length_nil, List.length_set, Nat.zero_add]; omega))⟩)) ?_)
  refine AO.opG rfl rfl rfl (fun hp => OpW.force 51 rfl (by exact hp) (O.fieldAddrR rfl rfl)) ?_
  refine AO.opG rfl rfl rfl (fun hp => OpW.force 52 rfl (by exact hp) (O.loadR rfl rfl (by rfl))) ?_
  refine AO.opG rfl rfl rfl (fun hp => OpW.force 53 rfl (by exact hp) (O.eql rfl rfl rfl (by assumption))) ?_
  refine AO.op (O.pickAnd rfl rfl rfl rfl (fun h => by exact h)) rfl rfl rfl ?_
  refine AO.op (O.move rfl rfl) rfl rfl rfl ?_
  refine AO.opG rfl rfl rfl (fun hp => O.move rfl rfl) ?_
  refine AO.opG rfl rfl rfl (fun hp => OpW.force 57 rfl (by exact hp) (O.eql rfl rfl rfl (by assumption))) ?_
  refine AO.op (O.pickAnd rfl rfl rfl rfl (fun h => by exact h)) rfl rfl rfl ?_
  refine AO.op (O.move rfl rfl) rfl rfl rfl ?_
  refine AO.opG rfl rfl rfl (fun hp => O.move rfl rfl) ?_
  refine AO.opG rfl rfl rfl (fun hp => OpW.force 61 rfl (by exact hp) (O.eql rfl rfl rfl (by assumption))) ?_
  refine AO.op (O.pickAnd rfl rfl rfl rfl (fun h => by exact h)) rfl rfl rfl ?_
  refine AO.op (O.move rfl rfl) rfl rfl rfl ?_
  refine AO.opG rfl rfl rfl (fun hp => O.fieldAddr rfl rfl) ?_
  refine AO.opG rfl rfl rfl (fun hp => OpW.force 65 rfl (by exact hp) (O.load rfl rfl (by repeat (exact List.Mem.head _)) (by rfl))) ?_
  refine AO.opG rfl rfl rfl (fun hp => OpW.force 66 rfl (by exact hp) (O.eql rfl rfl rfl (by exact beq_iff_eq.2 (by omega)))) ?_
  refine AO.op (O.pickAnd rfl rfl rfl rfl (fun h => by exact h)) rfl rfl rfl ?_
  refine AO.op (O.move rfl rfl) rfl rfl rfl ?_
  refine AO.opG rfl rfl rfl (fun hp => O.fieldAddr rfl rfl) ?_
  refine AO.opG rfl rfl rfl (fun hp => OpW.force 70 rfl (by exact hp) (O.load rfl rfl (by repeat (exact List.Mem.head _)) (by rfl))) ?_
  refine AO.opG rfl rfl rfl (fun hp => OpW.force 71 rfl (by exact hp) (O.eql rfl rfl rfl (by exact beq_iff_eq.2 (by omega)))) ?_
  refine AO.op (O.pickAnd rfl rfl rfl rfl (fun h => by exact h)) rfl rfl rfl ?_
  refine AO.op (O.assign rfl rfl) rfl rfl rfl ?_
  refine AO.nil ?_
  refine AQ.thenN ?_
  refine AW.ret ?_
  refine AQ.ret1 rfl rfl ⟨_, List.nil_sublist _, .nil⟩ (⟨rfl, rfl⟩)
end Go.Proofs.Ytdnmilmcdbgppaa.By

namespace Go.Proofs.Ytdnmilmcdbgppaa.By
open Go.RowKit L A Dk
set_option linter.unusedVariables false
set_option linter.unusedSimpArgs false
attribute [local irreducible] AW AQ AO

/-- Something, and a deck of which more or fewer numbers are taken. -/
def Gen (b : Nat) (l : List Int) (Φ : AV → Prop) : AV → List HE → Prop := fun r H' => Φ r ∧ ∃ k, k ≤ l.length ∧ H' = [deck b l k]
def IsNum (n : Int) (r : AV) : Prop := ∃ z : Int, 0 ≤ z ∧ z < n ∧ r = .val (.int .i64 z)
def IsBytes (n : Nat) (r : AV) : Prop := ∃ x : List UInt8, x.length ≤ n ∧ r = roB x
def Some1 (Φ : AV → Prop) : AV → List HE → Prop := fun r H' => Φ r ∧ H' = []
end Go.Proofs.Ytdnmilmcdbgppaa.By

namespace Go.Proofs.Ytdnmilmcdbgppaa.A
open Go.ChangeShapes Go.WideShapes Go.ChangeAt Go.RowKit Go.Deep L
set_option linter.unusedVariables false
set_option linter.unusedSimpArgs false

theorem own : ownKnob Try.prog.godebug = none := by kernel_rfl
theorem kids : Kids Try.prog (· < Try.prog.types.size) := kids_rows (by kernel_rfl) (by kernel_rfl)
theorem full : ∀ t e, t < Try.prog.types.size → Try.prog.underlying t = some (.slice e) → 0 < Try.prog.cellsOf e := slices_full_of Try.prog (by kernel_rfl)

theorem sameAt_ext {W W' : World} (h : Ext W W') (p : MemPlace) (hp : p.block < W.heap.size) : W.sameAt W' p := by
  have hb : W'.heap[p.block]? = W.heap[p.block]? := h.block _ hp (fun hh => hh)
  cases p with
  | cell b off => exact World.cell?_of_block (w := W) (a := ⟨b, off, none⟩) hb
  | map b => exact hb

section
variable {H : Type} {enc : TypeId × Value → H}
theorem trodAll_carry {P : Program} {W W' : World} {base : Nat} {spare : Nat → Bool} {held : Bool} : ∀ {ts : List TypeId} {vs : List Value} {ds : List (DataW H)} {ps : List MemPlace},
    DataW.TrodAll enc P W base spare held ts vs ds ps → (∀ p ∈ ps, W.sameAt W' p) → DataW.TrodAll enc P W' base spare held ts vs ds ps
  | [], [], [], _, h, _ => h
  | _ :: _, _ :: _, _ :: _, _, ⟨p, q, ⟨n, h1⟩, h2, e⟩, hs => ⟨p, q, ⟨n, DataW.trod_carry n _ _ _ h1 (fun x hx => hs x (by rw [e]; exact List.mem_append_left _ hx))⟩, trodAll_carry h2 (fun x hx => hs x (by rw [e]; exact List.mem_append_right _ hx)), e⟩

/-- A law: it returned true, and nothing that was there has turned. -/
theorem lawPost {fn : Func} {s : ChangeSpec} {W W' : World} {args : Array Value} {ds gs : List (DataW H)} {before : List MemPlace} {bt : TypeId}
    (hW : DataW.Whole enc Try.prog fn.params.toList s.vars false W args.toList ds gs before) (hv : s.vars = []) (hfn : s.fn H (ds ++ gs) = { results := [.lit (.bool true)], args := ds }) (hres : fn.resultTypes = #[bt]) (hbt : Try.prog.underlying bt = some .bool)
    (hpar : ∀ t ∈ fn.params.toList, t < Try.prog.types.size) (hE : Ext W W') : s.post enc Try.prog fn false true false false W args (.bool true) W' := by
  have hold : ∀ p ∈ before, (fun b => decide (b < W.heap.size)) p.block = true := fun p hp => by simpa using hW.lt p hp
  have hlt := hW.lt
  have hW' := hW
  obtain ⟨pa, pv, hA, hV, rfl, hz, hn⟩ := hW
  rw [hv] at hV
  obtain ⟨rfl, rfl⟩ := trodVars_none hV
  have hA' : DataW.TrodAll enc Try.prog W' 0 (fun _ => true) true fn.params.toList args.toList ds pa := trodAll_carry hA fun p hp => sameAt_ext hE p (hlt p (List.mem_append_left _ hp))
  have hargs : ∀ sp : Nat → Bool, (∀ p ∈ pa ++ [], sp p.block = true) → DataW.TrodAll enc Try.prog W' 0 sp true fn.params.toList args.toList ds pa := fun sp hsp =>
    DataW.TrodAll.respare kids full hpar hA' fun p hp => hsp p (by simpa using hp)
  have hres' : ∀ (b : Nat) (sp : Nat → Bool) (hd : Bool), DataW.TrodAll enc Try.prog W' b sp hd fn.resultTypes.toList ((Value.bool true).resultList fn.resultTypes.size) [.lit (.bool true)] [] := fun b sp hd => by
    rw [hres]; exact trodAll_cons_mk (shut_bool hbt true) trodAll_mk0
  refine ⟨ds, [], pa ++ [], [], pa, [], hW', by rw [hfn]; exact hres' _ _ _, by rw [hfn]; exact hargs _ hold, by rw [hfn, hv]; rfl, World.keptBut_mono (fun p hp => ⟨hp, ?_⟩) ((hE.toBelow).frame (· ∈ pa ++ [])), fun h => by cases h⟩
  exact Or.inr (by simpa using hp)

/-! ### How arguments read -/

def Old (W : World) : Nat → Prop := fun b => b < W.heap.size

variable {P : Program} {W : World}
/-- A reading of cells of a type as these. -/
theorem rd_int {base : Nat} {spare : Nat → Bool} {held : Bool} {t : TypeId} {k : IntKind} (ht : P.underlying t = some (.int k)) {n : Nat} {cs : List Value} {x : DataW H × List MemPlace} (h : DataW.trod enc P W base spare held n t cs = some x) :
    ∃ z : Int, (Lit.int k z).wf = true ∧ RelL (Old W) W [.val (.int k z)] cs := by
  cases n with
  | zero => simp [DataW.trod] at h
  | succ n =>
    obtain ⟨z, rfl, _, hw⟩ := DataW.trod_int ht h
    exact ⟨z, hw, RelL.cons (.val _) RelL.nil⟩

theorem rd_slice {α : Type} {enc' : α → List AV} {good : α → Prop} {base : Nat} {spare : Nat → Bool} {held : Bool} {t e : TypeId} (ht : P.underlying t = some (.slice e)) (hsz : ∀ a, (enc' a).length = P.cellsOf e) (hpos : 0 < P.cellsOf e)
    (he : ∀ (n : Nat) (cs : List Value) (x : DataW H × List MemPlace), cs.length = P.cellsOf e → DataW.trod enc P W base spare held n e cs = some x → ∃ a, good a ∧ RelL (Old W) W (enc' a) cs)
    {n : Nat} {cs : List Value} {x : DataW H × List MemPlace} (h : DataW.trod enc P W base spare held n t cs = some x) :
    ∃ l : List α, (∀ a ∈ l, good a) ∧ l.length ≤ maxLen ∧ RelL (Old W) W [.ro false l.length (l.flatMap enc')] cs := by
  rcases open_slice ht h with ⟨rfl, -⟩ | ⟨ad, len, cap, m, n', D, Pl, rfl, hb, hl, hm, hmm, hx, hi⟩
  · exact ⟨[], fun _ h => (by cases h), Nat.zero_le _, RelL.cons (.emp _ _ _ (fun h => by cases h) (Nat.zero_le _)) RelL.nil⟩
  · have hlm : len ≤ m := by rw [hmm]; split <;> omega
    have hex : ∀ i : Nat, ∃ a : Option α, i < len → ∃ a', a = some a' ∧ good a' ∧ ∃ cs', W.cells? base (ad.add (i * P.cellsOf e)) (P.cellsOf e) = some cs' ∧ RelL (Old W) W (enc' a') cs' := fun i => by
      by_cases hil : i < len
      · obtain ⟨cs', hc, htr⟩ := hi i (by omega)
        obtain ⟨_, hcl, _⟩ := World.cells?_some hc
        obtain ⟨a, hg, hr⟩ := he _ _ _ hcl htr
        exact ⟨some a, fun _ => ⟨a, rfl, hg, cs', hc, hr⟩⟩
      · exact ⟨none, fun h => absurd h hil⟩
    obtain ⟨f, hf⟩ := Classical.axiomOfChoice hex
    by_cases hlen0 : len = 0
    · subst hlen0
      exact ⟨[], fun _ h => (by cases h), Nat.zero_le _, RelL.cons (.emp _ _ _ (fun h => by cases h) hm) RelL.nil⟩
    · obtain ⟨a0, _, _⟩ := hf 0 (by omega)
      let g : Nat → α := fun i => (f i).getD a0
      have hg : ∀ i, i < len → good (g i) ∧ ∃ cs', W.cells? base (ad.add (i * P.cellsOf e)) (P.cellsOf e) = some cs' ∧ RelL (Old W) W (enc' (g i)) cs' := fun i hi' => by
        obtain ⟨a', ha', h1, h2⟩ := hf i hi'
        have : g i = a' := by simp [g, ha']
        rw [this]; exact ⟨h1, h2⟩
      have hflat : ∀ (len : Nat), (((List.range len).map g).flatMap enc').length = len * P.cellsOf e := by
        intro len
        induction len with
        | zero => simp
        | succ k ih => rw [List.range_succ, List.map_append, List.flatMap_append, List.length_append, ih]; simp [hsz, Nat.add_mul]
      have hflatget : ∀ (len i j : Nat), i < len → j < P.cellsOf e → (((List.range len).map g).flatMap enc')[i * P.cellsOf e + j]? = (enc' (g i))[j]? := by
        intro len
        induction len with
        | zero => intro i j h; omega
        | succ k ih =>
          intro i j h hj
          rw [List.range_succ, List.map_append, List.flatMap_append, List.getElem?_append]
          by_cases hik : i < k
          · have h1 : (i + 1) * P.cellsOf e ≤ k * P.cellsOf e := Nat.mul_le_mul_right _ (by omega)
            rw [Nat.add_mul] at h1
            rw [if_pos (by rw [hflat]; omega)]
            exact ih i j hik hj
          · have : i = k := by omega
            subst this
            rw [if_neg (by rw [hflat]; omega), hflat]
            simp
      have hblk : ad.spot = none ∧ ad.block < W.heap.size := by
        obtain ⟨_, cs', hc, _⟩ := hg 0 (by omega)
        obtain ⟨_, hcl, hat⟩ := World.cells?_some hc
        have h0 := hat 0 hpos
        simp only [Nat.zero_mul] at h0
        have h1 : W.cell? ad ≠ none := by
          intro hn
          rw [show (ad.add 0).add 0 = ad by simp [Addr.add]] at h0
          rw [hn] at h0
          have := (List.getElem?_eq_none_iff.1 h0.symm)
          omega
        refine ⟨?_, ?_⟩
        · cases hsp : ad.spot with
          | none => rfl
          | some _ => exfalso; apply h1; unfold World.cell?; split <;> simp [hsp]
        · cases hc : W.cell? ad with
          | none => exact absurd hc h1
          | some u => exact World.block_lt_of_cell? W ad hc
      obtain ⟨b, off, sp⟩ := ad
      obtain ⟨rfl, hblt⟩ := hblk
      have hcell : ∀ i j, i < len → j < P.cellsOf e → ∃ u, W.cell? ⟨b, off + (i * P.cellsOf e + j), none⟩ = some u ∧ ∃ x, (enc' (g i))[j]? = some x ∧ RelV (Old W) W x u := fun i j hi' hj => by
        obtain ⟨_, cs', hc, hr⟩ := hg i hi'
        obtain ⟨_, hcl, hat⟩ := World.cells?_some hc
        have h0 := hat j hj
        rw [addr_add, addr_add] at h0
        have hjl : j < cs'.length := by omega
        have hjx : j < (enc' (g i)).length := by rw [hsz]; exact hj
        refine ⟨cs'[j], by rw [← Nat.add_assoc, h0]; simp [hjl], (enc' (g i))[j], by simp [hjx], ?_⟩
        have := hr.2 j hjx
        simpa [hjl] using this
      refine ⟨(List.range len).map g, fun a ha => ?_, by simp; omega, RelL.cons ?_ RelL.nil⟩
      · obtain ⟨i, hi', rfl⟩ := List.mem_map.1 ha
        exact (hg i (List.mem_range.1 hi')).1
      · rw [List.length_map, List.length_range]
        have hq : ∀ j, j < (((List.range len).map g).flatMap enc').length → ∃ u, W.cell? ⟨b, off + j, none⟩ = some u ∧ ∃ x, (((List.range len).map g).flatMap enc')[j]? = some x ∧ RelV (Old W) W x u := fun j hj => by
          rw [hflat] at hj
          have h1 : j / P.cellsOf e < len := (Nat.div_lt_iff_lt_mul hpos).2 hj
          have h2 := Nat.mod_lt j hpos
          have h3 : j / P.cellsOf e * P.cellsOf e + j % P.cellsOf e = j := by rw [Nat.mul_comm]; exact Nat.div_add_mod j _
          obtain ⟨u, hu, x, hx', hr⟩ := hcell (j / P.cellsOf e) (j % P.cellsOf e) h1 h2
          rw [h3] at hu
          refine ⟨u, hu, x, ?_, hr⟩
          have := hflatget len _ _ h1 h2
          rw [h3] at this
          rw [this, hx']
        refine .ro false len _ b off cap (fun j => (W.cell? ⟨b, off + j, none⟩).getD undef) hblt (fun j hj => ?_) (fun j hj => ?_) hl hm (fun h => by cases h)
        · obtain ⟨u, hu, _⟩ := hq j hj
          rw [hu]; rfl
        · obtain ⟨u, hu, x, hx', hr⟩ := hq j hj
          rw [hu]
          simp only [Option.getD_some]
          have : x = (((List.range len).map g).flatMap enc')[j] := by
            rw [List.getElem?_eq_getElem hj] at hx'; exact (Option.some.inj hx').symm
          rw [← this]; exact hr

theorem flatMap_one {α : Type} (f : α → AV) (l : List α) : l.flatMap (fun a => [f a]) = l.map f := by
  induction l with
  | nil => rfl
  | cons a l ih => simp [List.flatMap_cons, ih]

theorem rd_ints {base : Nat} {spare : Nat → Bool} {held : Bool} {t e : TypeId} {k : IntKind} (ht : P.underlying t = some (.slice e)) (he : P.underlying e = some (.int k)) (h1 : P.cellsOf e = 1) {n : Nat} {cs : List Value} {x : DataW H × List MemPlace} (h : DataW.trod enc P W base spare held n t cs = some x) :
    ∃ l : List Int, (∀ z ∈ l, (Lit.int k z).wf = true) ∧ l.length ≤ maxLen ∧ RelL (Old W) W [.ro false l.length (intsA k l)] cs := by
  obtain ⟨l, h2, h3, h4⟩ := rd_slice (enc' := fun z : Int => [.val (.int k z)]) (good := fun z => (Lit.int k z).wf = true) ht (fun _ => h1.symm) (by omega) (fun n cs x _ h => rd_int he h) h
  rw [flatMap_one] at h4
  exact ⟨l, h2, h3, h4⟩
theorem rd_bytes {base : Nat} {spare : Nat → Bool} {held : Bool} {t e : TypeId} (ht : P.underlying t = some (.slice e)) (he : P.underlying e = some (.int .u8)) (h1 : P.cellsOf e = 1) {n : Nat} {cs : List Value} {x : DataW H × List MemPlace} (h : DataW.trod enc P W base spare held n t cs = some x) :
    ∃ l : List UInt8, l.length ≤ maxLen ∧ RelL (Old W) W [roB l] cs := by
  obtain ⟨l, h2, h3, h4⟩ := rd_ints ht he h1 h
  have hb : ∃ m : List UInt8, l = m.map fun b => ((b.toNat : Nat) : Int) := by
    clear h h3 h4
    induction l with
    | nil => exact ⟨[], rfl⟩
    | cons z l ih =>
      obtain ⟨m, rfl⟩ := ih fun z hz => h2 z (List.mem_cons_of_mem _ hz)
      have hz := h2 z (List.mem_cons_self ..)
      have hz' : 0 ≤ z ∧ z ≤ 255 := by simpa [Lit.wf, IntKind.min, IntKind.max, IntKind.signed, IntKind.bits] using hz
      refine ⟨UInt8.ofNat z.toNat :: m, ?_⟩
      simp only [List.map_cons, List.cons.injEq, and_true]
      rw [UInt8.toNat_ofNat_of_lt' (by simp [UInt8.size]; omega)]
      omega
  obtain ⟨m, rfl⟩ := hb
  refine ⟨m, by simpa using h3, ?_⟩
  simpa [roB, bytesA, intsA, Function.comp_def] using h4

theorem relV_of_one {R : Nat → Prop} {a : AV} {v : Value} (hc : v.cells.toList = [v]) (h : RelL R W [a] v.cells.toList) : RelV R W a v := by
  rw [hc] at h
  obtain ⟨u, r, he, h1, _⟩ := h.uncons
  cases he
  exact h1
end
end Go.Proofs.Ytdnmilmcdbgppaa.A

namespace Go.Proofs.Ytdnmilmcdbgppaa.A
open Go.ChangeShapes Go.WideShapes Go.ChangeAt Go.RowKit L
set_option linter.unusedVariables false
set_option linter.unusedSimpArgs false
section
variable {P : Program}

/-- Arguments of this type read as one of these. -/
def Reads (P : Program) (t : TypeId) (φ : AV → Prop) : Prop :=
  ∀ (H : Type) (enc : TypeId × Value → H) (W : World) (base b0 : Nat) (spare : Nat → Bool) (held : Bool) (v : Value) (d : DataW H) (p : List MemPlace),
    Value.okWide P W .any b0 t v → DataW.Trod enc P W base spare held t v d p → ∃ x, φ x ∧ RelV (Old W) W x v
/-- Cells of this type read as one of these. -/
structure RdC (P : Program) (t : TypeId) {α : Type} (f : α → List AV) (good : α → Prop) : Prop where
  len : ∀ a, (f a).length = P.cellsOf t
  rd : ∀ (H : Type) (enc : TypeId × Value → H) (W : World) (base : Nat) (spare : Nat → Bool) (held : Bool) (n : Nat) (cs : List Value) (x : DataW H × List MemPlace),
    DataW.trod enc P W base spare held n t cs = some x → ∃ a, good a ∧ RelL (Old W) W (f a) cs

theorem okw_int {W : World} {r : Reach} {b : Nat} {t : TypeId} {k : IntKind} (ht : P.underlying t = some (.int k)) {v : Value} (h : Value.okWide P W r b t v) : v.cells.toList = [v] := by
  cases v <;> simp [Value.okWide, ht, Cell.okWide, Cell.ok] at h <;> rfl
theorem okw_slice {W : World} {r : Reach} {b : Nat} {t e : TypeId} (ht : P.underlying t = some (.slice e)) {v : Value} (h : Value.okWide P W r b t v) : v.cells.toList = [v] := by
  cases v <;> simp [Value.okWide, ht, Cell.okWide, Cell.ok] at h <;> rfl
theorem okw_bool {W : World} {r : Reach} {b : Nat} {t : TypeId} (ht : P.underlying t = some .bool) {v : Value} (h : Value.okWide P W r b t v) : v.cells.toList = [v] := by
  cases v <;> simp [Value.okWide, ht, Cell.okWide, Cell.ok] at h <;> rfl
theorem RelL.glue {R : Nat → Prop} {W : World} {xs ys : List AV} {cs : List Value} {o k : Nat} (h1 : RelL R W xs ((cs.drop o).take k)) (h2 : RelL R W ys (cs.drop (o + k))) : RelL R W (xs ++ ys) (cs.drop o) := by
  have := h1.app h2
  rwa [show (cs.drop o).take k ++ cs.drop (o + k) = cs.drop o by rw [← List.drop_drop, List.take_append_drop]] at this
theorem RdC.int {t : TypeId} {k : IntKind} (ht : P.underlying t = some (.int k)) (h1 : P.cellsOf t = 1) : RdC P t (fun z : Int => [.val (.int k z)]) (fun z => (Lit.int k z).wf = true) :=
  ⟨fun _ => h1.symm, fun H enc W base spare held n cs x h => rd_int ht h⟩
theorem RdC.bool {t : TypeId} (ht : P.underlying t = some .bool) (h1 : P.cellsOf t = 1) : RdC P t (fun z : Bool => [.val (.bool z)]) (fun _ => True) :=
  ⟨fun _ => h1.symm, fun H enc W base spare held n cs x h => by
    obtain ⟨b, rfl, _⟩ := DataW.trod_bool ht h
    exact ⟨b, trivial, RelL.cons (.val _) RelL.nil⟩⟩
theorem RdC.string {t : TypeId} (ht : P.underlying t = some .string) (h1 : P.cellsOf t = 1) : RdC P t (fun s : ByteArray => [.val (.string s)]) (fun s => s.size ≤ maxLen) :=
  ⟨fun _ => h1.symm, fun H enc W base spare held n cs x h => by
    obtain ⟨b, rfl, _, hs⟩ := DataW.trod_string ht h
    exact ⟨b, hs, RelL.cons (.val _) RelL.nil⟩⟩
theorem RdC.slice {t e : TypeId} {α : Type} {f : α → List AV} {good : α → Prop} (ht : P.underlying t = some (.slice e)) (h1 : P.cellsOf t = 1) (hpos : 0 < P.cellsOf e) (h : RdC P e f good) :
    RdC P t (fun l : List α => [.ro false l.length (l.flatMap f)]) (fun l => (∀ a ∈ l, good a) ∧ l.length ≤ maxLen) :=
  ⟨fun _ => h1.symm, fun H enc W base spare held n cs x hx => by
    obtain ⟨l, h2, h3, h4⟩ := rd_slice ht h.len hpos (fun n cs x _ hx => h.rd H enc W base spare held n cs x hx) hx
    exact ⟨l, ⟨h2, h3⟩, h4⟩⟩
theorem RdC.bytes {t e : TypeId} (ht : P.underlying t = some (.slice e)) (he : P.underlying e = some (.int .u8)) (h1 : P.cellsOf t = 1) (h2 : P.cellsOf e = 1) : RdC P t (fun l : List UInt8 => [roB l]) (fun l => l.length ≤ maxLen) :=
  ⟨fun _ => h1.symm, fun H enc W base spare held n cs x hx => rd_bytes ht he h2 hx⟩
theorem RdC.ints {t e : TypeId} {k : IntKind} (ht : P.underlying t = some (.slice e)) (he : P.underlying e = some (.int k)) (h1 : P.cellsOf t = 1) (h2 : P.cellsOf e = 1) :
    RdC P t (fun l : List Int => [.ro false l.length (intsA k l)]) (fun l => (∀ z ∈ l, (Lit.int k z).wf = true) ∧ l.length ≤ maxLen) :=
  ⟨fun _ => h1.symm, fun H enc W base spare held n cs x hx => by
    obtain ⟨l, h3, h4, h5⟩ := rd_ints ht he h2 hx
    exact ⟨l, ⟨h3, h4⟩, h5⟩⟩
/-- Fields, one after the other, from cell o on. -/
structure FR (P : Program) (fs : List Field) (o m : Nat) {α : Type} (f : α → List AV) (good : α → Prop) : Prop where
  len : ∀ a, (f a).length = m
  rd : ∀ (H : Type) (enc : TypeId × Value → H) (W : World) (base : Nat) (spare : Nat → Bool) (held : Bool) (cs : List Value), cs.length = o + m →
    (∀ fd ∈ fs, ∃ (n : Nat) (y : DataW H × List MemPlace), DataW.trod enc P W base spare held n fd.type ((cs.drop fd.offset).take (P.cellsOf fd.type)) = some y) → ∃ a, good a ∧ RelL (Old W) W (f a) (cs.drop o)
theorem FR.nil {o : Nat} : FR P [] o 0 (fun _ : Unit => []) (fun _ => True) :=
  ⟨fun _ => rfl, fun H enc W base spare held cs hl _ => ⟨(), trivial, by rw [List.drop_of_length_le (by omega)]; exact RelL.nil⟩⟩
theorem FR.cons {fd : Field} {fs : List Field} {o k m : Nat} {α β : Type} {f : α → List AV} {good : α → Prop} {g : β → List AV} {good' : β → Prop} (h : RdC P fd.type f good) (ho : fd.offset = o) (hk : P.cellsOf fd.type = k) (hs : FR P fs (o + k) m g good') :
    FR P (fd :: fs) o (k + m) (fun p : α × β => f p.1 ++ g p.2) (fun p => good p.1 ∧ good' p.2) :=
  ⟨fun p => by rw [List.length_append, h.len, hs.len, hk], fun H enc W base spare held cs hl hall => by
    obtain ⟨n, y, h1⟩ := hall fd (List.mem_cons_self ..)
    rw [ho, hk] at h1
    obtain ⟨a, h2, h3⟩ := h.rd H enc W base spare held _ _ _ h1
    obtain ⟨b, h4, h5⟩ := hs.rd H enc W base spare held cs (by omega) (fun fd hfd => hall fd (List.mem_cons_of_mem _ hfd))
    exact ⟨(a, b), ⟨h2, h4⟩, RelL.glue h3 h5⟩⟩
theorem RdC.struct {t : TypeId} {fs : List Field} {m : Nat} {α : Type} {f : α → List AV} {good : α → Prop} (ht : P.underlying t = some (.struct fs.toArray)) (hm : P.cellsOf t = m) (h : FR P fs 0 m f good) : RdC P t f good :=
  ⟨fun a => by rw [h.len, hm], fun H enc W base spare held n cs x hx => by
    obtain ⟨xs, n', _, _, hl, hlen, hf⟩ := DataW.trod_struct ht hx
    obtain ⟨a, h1, h2⟩ := h.rd H enc W base spare held cs (by omega) (fun fd hfd => by
      obtain ⟨i, hi, rfl⟩ := List.getElem_of_mem hfd
      have h0 := hf i fs[i] (by simp [hi])
      have hxi : i < xs.length := by rw [hlen]; simpa using hi
      rw [List.getElem?_eq_getElem hxi] at h0
      exact ⟨n', _, h0⟩)
    exact ⟨a, h1, by simpa using h2⟩⟩
theorem RdC.map {t : TypeId} {α β : Type} {f : α → List AV} {good : α → Prop} {g : β → List AV} {good' : β → Prop} (h : RdC P t f good) (φ : α → β) (hφ : ∀ a, good a → good' (φ a) ∧ f a = g (φ a)) (hl : ∀ b, (g b).length = P.cellsOf t) : RdC P t g good' :=
  ⟨hl, fun H enc W base spare held n cs x hx => by
    obtain ⟨a, h1, h2⟩ := h.rd H enc W base spare held n cs x hx
    exact ⟨φ a, (hφ a h1).1, (hφ a h1).2 ▸ h2⟩⟩
theorem RdC.reads {t : TypeId} {α : Type} {f : α → List AV} {good : α → Prop} (h : RdC P t f good) (g : α → AV) (hg : ∀ a, f a = [g a]) (hw : ∀ (W : World) (b : Nat) (v : Value), Value.okWide P W .any b t v → v.cells.toList = [v]) : Reads P t (fun x => ∃ a, good a ∧ x = g a) :=
  fun H enc W base b0 spare held v d p hv ⟨n, hx⟩ => by
    obtain ⟨a, h1, h2⟩ := h.rd H enc W base spare held n _ _ hx
    rw [hg] at h2
    exact ⟨g a, ⟨a, h1, rfl⟩, relV_of_one (hw _ _ _ hv) h2⟩
theorem Reads.int {t : TypeId} {k : IntKind} (ht : P.underlying t = some (.int k)) (h1 : P.cellsOf t = 1) : Reads P t (fun x => ∃ z : Int, (Lit.int k z).wf = true ∧ x = .val (.int k z)) := (RdC.int ht h1).reads (fun z => .val (.int k z)) (fun _ => rfl) (fun _ _ _ h => okw_int ht h)
theorem Reads.bool {t : TypeId} (ht : P.underlying t = some .bool) (h1 : P.cellsOf t = 1) : Reads P t (fun x => ∃ z : Bool, True ∧ x = .val (.bool z)) := (RdC.bool ht h1).reads (fun z => .val (.bool z)) (fun _ => rfl) (fun _ _ _ h => okw_bool ht h)
theorem Reads.bytes {t e : TypeId} (ht : P.underlying t = some (.slice e)) (he : P.underlying e = some (.int .u8)) (h1 : P.cellsOf t = 1) (h2 : P.cellsOf e = 1) : Reads P t (fun x => ∃ l : List UInt8, l.length ≤ maxLen ∧ x = roB l) := (RdC.bytes ht he h1 h2).reads roB (fun _ => rfl) (fun _ _ _ h => okw_slice ht h)
theorem Reads.ints {t e : TypeId} {k : IntKind} (ht : P.underlying t = some (.slice e)) (he : P.underlying e = some (.int k)) (h1 : P.cellsOf t = 1) (h2 : P.cellsOf e = 1) :
    Reads P t (fun x => ∃ l : List Int, ((∀ z ∈ l, (Lit.int k z).wf = true) ∧ l.length ≤ maxLen) ∧ x = .ro false l.length (intsA k l)) := (RdC.ints ht he h1 h2).reads (fun l => .ro false l.length (intsA k l)) (fun _ => rfl) (fun _ _ _ h => okw_slice ht h)
theorem Reads.slice {t e : TypeId} {α : Type} {f : α → List AV} {good : α → Prop} (ht : P.underlying t = some (.slice e)) (h1 : P.cellsOf t = 1) (hpos : 0 < P.cellsOf e) (h : RdC P e f good) :
    Reads P t (fun x => ∃ l : List α, ((∀ a ∈ l, good a) ∧ l.length ≤ maxLen) ∧ x = .ro false l.length (l.flatMap f)) := (RdC.slice ht h1 hpos h).reads (fun l => .ro false l.length (l.flatMap f)) (fun _ => rfl) (fun _ _ _ h => okw_slice ht h)

/-- All arguments. -/
def ReadsL (P : Program) : List TypeId → List (AV → Prop) → Prop
  | [], [] => True
  | t :: ts, φ :: φs => Reads P t φ ∧ ReadsL P ts φs
  | _, _ => False
theorem ReadsL.nil : ReadsL P [] [] := trivial
theorem ReadsL.cons {t : TypeId} {ts : List TypeId} {φ : AV → Prop} {φs : List (AV → Prop)} (h : Reads P t φ) (hs : ReadsL P ts φs) : ReadsL P (t :: ts) (φ :: φs) := ⟨h, hs⟩
def AllOf : List (AV → Prop) → (List AV → Prop) → Prop
  | [], K => K []
  | φ :: φs, K => ∀ x, φ x → AllOf φs (fun xs => K (x :: xs))

theorem readAll {H : Type} {enc : TypeId × Value → H} {W : World} {base b0 : Nat} {spare : Nat → Bool} {held : Bool} : ∀ {ts : List TypeId} {φs : List (AV → Prop)} {K : List AV → Prop} {vs : List Value} {ds : List (DataW H)} {ps : List MemPlace},
    ReadsL P ts φs → AllOf φs K → (∀ (j : Nat) t v, ts[j]? = some t → vs[j]? = some v → Value.okWide P W .any b0 t v) → DataW.TrodAll enc P W base spare held ts vs ds ps → ∃ xs, K xs ∧ RelL (Old W) W xs vs
  | [], [], K, vs, ds, ps, _, hK, _, hT => by
    obtain ⟨rfl, _, _⟩ := trodAll_nil hT
    exact ⟨[], hK, RelL.nil⟩
  | [], _ :: _, _, _, _, _, h, _, _, _ => h.elim
  | _ :: _, [], _, _, _, _, h, _, _, _ => h.elim
  | t :: ts, φ :: φs, K, vs, ds, ps, h, hK, hv, hT => by
    obtain ⟨v0, vs0, d0, ds0, p0, q0, rfl, rfl, rfl, h0, r0⟩ := trodAll_cons hT
    obtain ⟨x, h1, h2⟩ := h.1 H enc W base b0 spare held v0 d0 p0 (hv 0 t v0 rfl rfl) h0
    obtain ⟨xs, h3, h4⟩ := readAll h.2 (hK x h1) (fun j t v a b => hv (j + 1) t v a b) r0
    exact ⟨x :: xs, h3, RelL.cons h2 h4⟩
end

theorem law_contract {f : FuncId} {fn : Func} {s : ChangeSpec} {H : Type} (enc : TypeId × Value → H) {ts : List TypeId} {φs : List (AV → Prop)} (hp : fn.params.toList = ts) (hr : ReadsL Try.prog ts φs)
    (h : AllOf φs fun xs => Sp Try.prog f xs [] (Is (.val (.bool true)))) {W : World} {base : Nat} {args : Array Value} {ds gs : List (DataW H)} {before : List MemPlace}
    (hval : ∀ (j : Nat) t v, fn.params[j]? = some t → args[j]? = some v → Value.okWide Try.prog W .any base t v)
    (hW : DataW.Whole enc Try.prog fn.params.toList s.vars false W args.toList ds gs before)
    (post : ∀ W', Ext W W' → s.post enc Try.prog fn false true false false W args (.bool true) W') :
    Calls Try.prog f args W fun e W' => ∃ v, e = .returned v ∧ s.post enc Try.prog fn false true false false W args v W' := by
  obtain ⟨p, q, hA, hV, rfl, hfz, hnd⟩ := hW
  rw [hp] at hA
  obtain ⟨xs, hS, hR⟩ := readAll (b0 := base) hr h (fun j t v h1 h2 => hval j t v (by rw [← Array.getElem?_toList, hp]; exact h1) (by rw [← Array.getElem?_toList]; exact h2)) hA
  have hc := hS W (Old W) args.toList (fun b hb => hb) (fun e he => by cases he) .nil hR
  rw [Array.toArray_toList] at hc
  refine hc.mono ?_
  rintro e W' ⟨u, r, H', R', rfl, ⟨rfl, rfl⟩, hs, hv⟩
  obtain rfl := hv.val_inv
  exact ⟨_, rfl, post W' (hs.mods.mono fun b _ ⟨e, he, _⟩ => by cases he)⟩
end Go.Proofs.Ytdnmilmcdbgppaa.A

namespace Go.Proofs.Ytdnmilmcdbgppaa.A
open Go.RowKit L
section
variable {Γ : Cx} {P : Program} {E : Env} {H : List HE} {N : Nat} {o : Oper}
end
end Go.Proofs.Ytdnmilmcdbgppaa.A

namespace Go.Proofs.Ytdnmilmcdbgppaa.By
open Go.RowKit L A Dk
set_option linter.unusedVariables false
set_option maxRecDepth 20000
set_option linter.unusedSimpArgs false
attribute [local irreducible] AW AQ AO
def bareM (t c i : Int) : Msg := ⟨t, c, i, [], [], []⟩
def ReqOk (m : Msg) : Prop := ∃ t c i : Int, 0 ≤ t ∧ t < 2 ∧ 0 ≤ c ∧ c ≤ 2 ∧ 0 ≤ i ∧ i ≤ 65535 ∧ m = bareM t c i
def IsReq (r : AV) : Prop := ∃ m, ReqOk m ∧ r = aggM m
def c3 : List Int := [1, 2, 0]
def c6 : List Int := [0, 1, 9, 10, 65534, 65535]
def IsBare (r : AV) : Prop := ∃ t c i : Int, r = aggM (bareM t c i)
end Go.Proofs.Ytdnmilmcdbgppaa.By
