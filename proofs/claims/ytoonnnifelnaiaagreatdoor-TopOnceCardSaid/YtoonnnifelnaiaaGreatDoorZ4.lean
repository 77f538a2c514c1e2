/-
  Texts laid together (part 4): what the statement's walk and plain law need. No condition.
-/
import Derived.ChangeSame
import Derived.JoinedOf
import Derived.JoinedAt
import Derived.RowKit3
import Derived.ReadAgain
import Derived.Deep.Slices
import Derived.ChangeSlices
import Derived.Test.YtoonnnifelnaiaaGreatDoorZ3
namespace Go.Proofs.YtoonnnifelnaiaaGreatDoor.By
open Go.RowKit L A
set_option linter.unusedVariables false
set_option maxRecDepth 20000
set_option linter.unusedSimpArgs false
attribute [local irreducible] AW AQ AO
abbrev RecvOk (e : Ep) (p : Int) (m : Msg) (now : Int) : Prop := ValE e ∧ TimeOk now ∧ PeerOk p ∧ ValM m
def gotR (c : Ep) (p : Int) (m : Msg) (now : Int) : Ep × Int × Msg × Int := match c.inn.findIdx? (hB p m.id) with
  | some i => (c, 2, (hd c.inn i).m, 0)
  | none => if 16 ≤ c.inn.length then (c, 6, Msg.none, 0) else (⟨c.next, c.out, c.used, c.inn ++ [⟨p, m.id, now + 128, false, Msg.none⟩]⟩, 1, Msg.none, 0)
def recvR (e : Ep) (p : Int) (m : Msg) (now : Int) : Ep × Int × Msg × Int :=
  if RecvOk e p m now then
    if m.ty = 2 ∨ m.ty = 3 then endR (cleanE e now) p m
    else if m.code = 0 then (cleanE e now, 5, if m.ty = 0 then ⟨3, 0, m.id, [], [], []⟩ else Msg.none, 0)
    else gotR (cleanE e now) p m now
  else (Ep.none, 0, Msg.none, 1)
theorem endR_shape (c : Ep) (p : Int) (m : Msg) : endR c p m = (⟨c.next, (endR c p m).1.out, c.used, c.inn⟩, (endR c p m).2.1, Msg.none, 0) := by
  unfold endR
  cases c.out.findIdx? (wB p m.id) <;> rfl
abbrev resV (r : Ep × Int × Msg × Int) : AV := .tup [aggE r.1, .val (.int .i64 r.2.1), aggM r.2.2.1, .val (.int .i64 r.2.2.2)]
theorem ret4V {q : AV} {r : Ep × Int × Msg × Int} {a : Ep} {b : Int} {c : Msg} {d : Int} (h : r = (a, b, c, d)) (hq : q = .tup [aggE a, .val (.int .i64 b), aggM c, .val (.int .i64 d)]) : Is (resV r) q [] := by subst h; exact ⟨hq, rfl⟩
set_option maxHeartbeats 4000000 in
theorem recv_fn (e : Ep) (p : Int) (m : Msg) (now : Int) (hb : BdE e) : Sp Tryz.prog 21 [aggE e, .val (.int .i64 p), aggM m, .val (.int .i64 now)] [] (Is (resV (recvR e p m now))) := by
  refine Sp.enter Tryz.func21 rfl _ Tryz.ntmps21 rfl (fun w0 R0 => ?_)
  refine AW.seq ?_
  refine AW.region ?_
  refine AO.opB (O.box rfl rfl rfl rfl rfl) rfl rfl rfl ?_
  intro B1
  refine AO.opB (O.box rfl rfl rfl rfl rfl) rfl rfl rfl ?_
  intro B2
  refine AO.opB (O.alloc rfl (by (dsimp only [zerosA, List.replicate, List.append, List.flatten, AV.cells, Value.cells, List.toList_toArray, List.map]; done)) (by rfl)) rfl rfl rfl ?_
  intro B3
  refine AO.op (O.assign rfl rfl) rfl rfl rfl ?_
  refine AO.opB (O.alloc rfl (by (dsimp only [zerosA, List.replicate, List.append, List.flatten, AV.cells, Value.cells, List.toList_toArray, List.map]; done)) (by rfl)) rfl rfl rfl ?_
  intro B4
  refine AO.op (O.assign rfl rfl) rfl rfl rfl ?_
  refine AO.nil ?_
  refine AQ.thenN ?_
  refine AW.seq ?_
  refine AW.seq ?_
  refine AW.region ?_
  (refine AO.op (O.loadK rfl rfl (by repeat (first | exact List.Mem.head _ | refine List.Mem.tail _ ?_)) (by (dsimp only [List.set, List.append, List.cons_append, List.nil_append, AV.cells, splice, List.take, List.drop, Nat.reduceAdd]; done)) (by rfl)) rfl rfl rfl ?_)
  refine AO.op (O.call rfl Tryz.func50 rfl rfl rfl (evalid_fn e hb)) rfl rfl rfl ?_
  refine AO.op (O.not rfl rfl (by rfl)) rfl rfl rfl ?_
  refine AO.op (O.move rfl rfl) rfl rfl rfl ?_
  refine AO.opG rfl rfl rfl (fun hp => O.move rfl rfl) ?_
  refine AO.opG rfl rfl rfl (fun hp => OpW.force 19 rfl (by exact hp) (O.call rfl Tryz.func51 rfl rfl rfl (timeOK_fn _))) ?_
  refine AO.opG rfl rfl rfl (fun hp => OpW.force 20 rfl (by exact hp) (O.not rfl rfl (by rfl))) ?_
  refine AO.op (O.pickOr rfl rfl rfl rfl (fun h => by exact congrArg (fun b => !b) h)) rfl rfl rfl ?_
  refine AO.op (O.move rfl rfl) rfl rfl rfl ?_
  refine AO.opG rfl rfl rfl (fun hp => O.move rfl rfl) ?_
  refine AO.opG rfl rfl rfl (fun hp => OpW.force 24 rfl (by exact hp) (O.call rfl Tryz.func52 rfl rfl rfl (peerOK_fn _))) ?_
  refine AO.opG rfl rfl rfl (fun hp => OpW.force 25 rfl (by exact hp) (O.not rfl rfl (by rfl))) ?_
  refine AO.op (O.pickOr rfl rfl rfl rfl (fun h => by exact congrArg (fun b => !b) h)) rfl rfl rfl ?_
  refine AO.op (O.move rfl rfl) rfl rfl rfl ?_
  (refine AO.opG rfl rfl rfl (fun hp => O.loadK rfl rfl (by repeat (first | exact List.Mem.head _ | refine List.Mem.tail _ ?_)) (by (dsimp only [List.set, List.append, List.cons_append, List.nil_append, AV.cells, splice, List.take, List.drop, Nat.reduceAdd]; done)) (by rfl)) ?_)
  refine AO.opG rfl rfl rfl (fun hp => OpW.force 29 rfl (by exact hp) (O.call rfl Tryz.func53 rfl rfl rfl (valid_fn m))) ?_
  refine AO.opG rfl rfl rfl (fun hp => OpW.force 30 rfl (by exact hp) (O.not rfl rfl (by rfl))) ?_
  refine AO.op (O.pickOr rfl rfl rfl rfl (fun h => by exact congrArg (fun b => !b) h)) rfl rfl rfl ?_
  refine AO.nil ?_
  refine AQ.thenN ?_
  refine AW.split rfl (fun h => ?_) (fun h => ?_) <;> (try simp only [decide_eq_true_eq, decide_eq_false_iff_not, beq_iff_eq, beq_eq_false_iff_ne, bne_iff_ne, bne_eq_false_iff_eq, Bool.not_eq_true', Bool.not_eq_false', Bool.not_eq_true, Bool.not_eq_false, ne_eq, Int.not_lt, Int.not_le, Bool.and_eq_true, Bool.or_eq_true, Bool.or_eq_false_iff, Bool.and_eq_false_imp, strOf_toList, Decidable.not_not] at h)
  · skip
    have e1 : recvR e p m now = (Ep.none, 0, Msg.none, 1) := if_neg (by
      rintro ⟨h1, h2, h3, h4⟩
      rcases h with ((h | h) | h) | h
      · exact h h1
      · exact h h2
      · exact h h3
      · exact h h4)
    refine AW.seq ?_
    refine AW.region ?_
    refine AO.op (O.build rfl rfl rfl (by rfl)) rfl rfl rfl ?_
    refine AO.op (O.build rfl rfl rfl (by rfl)) rfl rfl rfl ?_
    (refine AO.store (i := 1) rfl rfl rfl rfl rfl rfl (by rfl) (by rfl) (by rfl) (by (dsimp only [List.set, List.append, List.cons_append, List.nil_append, AV.cells, splice, List.take, List.drop, Nat.reduceAdd]; done)) (by (dsimp only [List.set, List.append, List.cons_append, List.nil_append, AV.cells, splice, List.take, List.drop, Nat.reduceAdd]; done)) ?_)
    refine AO.op (O.assign rfl rfl) rfl rfl rfl ?_
    (refine AO.store (i := 0) rfl rfl rfl rfl rfl rfl (by rfl) (by rfl) (by rfl) (by (dsimp only [List.set, List.append, List.cons_append, List.nil_append, AV.cells, splice, List.take, List.drop, Nat.reduceAdd]; done)) (by (dsimp only [List.set, List.append, List.cons_append, List.nil_append, AV.cells, splice, List.take, List.drop, Nat.reduceAdd]; done)) ?_)
    refine AO.op (O.assign rfl rfl) rfl rfl rfl ?_
    refine AO.nil ?_
    refine AQ.thenN ?_
    refine AW.ret ?_
    refine AQ.thenR ?_
    refine FnQ.coe (AQ.ret4G rfl (by exact ResAt.cell rfl (by repeat (first | exact List.Mem.head _ | refine List.Mem.tail _ ?_)) (by (dsimp only [List.set, List.append, List.cons_append, List.nil_append, AV.cells, splice, List.take, List.drop, Nat.reduceAdd]; done)) (by rfl)) (by exact ResAt.tmp rfl) (by exact ResAt.cell rfl (by repeat (exact List.Mem.head _)) (by (dsimp only [List.set, List.append, List.cons_append, List.nil_append, AV.cells, splice, List.take, List.drop, Nat.reduceAdd]; done)) (by rfl)) (by exact ResAt.tmp rfl) ⟨_, List.nil_sublist _, .nil⟩ ⟨rfl, rfl⟩) (Coe.tup (by (repeat (first | exact CoeL.nil | refine CoeL.cons Coe.rfl ?_ | refine CoeL.cons Coe.nil ?_ | refine CoeL.cons (Coe.agg ?_) ?_)); done)) (ret4V e1 rfl)
  · skip
    obtain ⟨⟨⟨hv, ht⟩, hp⟩, hvm⟩ := h
    have hok : RecvOk e p m now := ⟨hv, ht, hp, hvm⟩
    have hsm := ValE.sm hv
    have hv1 := hv.2.1
    have hv4 := hv.2.2.2.1
    have hci := clean_inn e now
    have h0 : recvR e p m now = _ := if_pos hok
    refine AW.skip ?_
    refine AQ.thenN ?_
    refine AW.seq ?_
    refine AW.region ?_
    (refine AO.op (O.loadK rfl rfl (by repeat (first | exact List.Mem.head _ | refine List.Mem.tail _ ?_)) (by (dsimp only [List.set, List.append, List.cons_append, List.nil_append, AV.cells, splice, List.take, List.drop, Nat.reduceAdd]; done)) (by rfl)) rfl rfl rfl ?_)
    refine AO.op (O.move rfl rfl) rfl rfl rfl ?_
    refine AO.opN (O.call rfl Tryz.func54 rfl rfl rfl (cleaned_fn e now hsm)) rfl rfl rfl ?_
    rintro _ _ ⟨V15, V25, V35, hV15, hV25, hV35, rfl, rfl⟩
    simp only [List.cons_append, List.nil_append]
    (refine AO.store (i := 6) rfl rfl rfl rfl rfl rfl (by (simp [AV.cells, AV.one, roB, roI, roO, show ∀ k z, (Value.int k z).oneCell' = true from fun _ _ => rfl, show ∀ k, (Value.bool k).oneCell' = true from fun _ => rfl, *]; done)) (by rfl) (by rfl) (by (dsimp only [List.set, List.append, List.cons_append, List.nil_append, AV.cells, splice, List.take, List.drop, Nat.reduceAdd]; done)) (by (dsimp only [List.set, List.append, List.cons_append, List.nil_append, AV.cells, splice, List.take, List.drop, Nat.reduceAdd]; done)) ?_)
    refine AO.nil ?_
    refine AQ.thenN ?_
    refine AW.seq ?_
    refine AW.seq ?_
    refine AW.region ?_
    refine AO.op (O.fieldAddr rfl rfl) rfl rfl rfl ?_
    refine AO.op (O.load rfl rfl (by repeat (first | exact List.Mem.head _ | refine List.Mem.tail _ ?_)) (by rfl)) rfl rfl rfl ?_
    refine AO.op (O.eql rfl rfl rfl (by rfl)) rfl rfl rfl ?_
    refine AO.op (O.move rfl rfl) rfl rfl rfl ?_
    refine AO.opG rfl rfl rfl (fun hp => O.fieldAddr rfl rfl) ?_
    refine AO.opG rfl rfl rfl (fun hp => OpW.force 42 rfl (by exact hp) (O.load rfl rfl (by repeat (first | exact List.Mem.head _ | refine List.Mem.tail _ ?_)) (by rfl))) ?_
    refine AO.opG rfl rfl rfl (fun hp => OpW.force 43 rfl (by exact hp) (O.eql rfl rfl rfl (by rfl))) ?_
    refine AO.op (O.pickOr rfl rfl rfl rfl (fun h => by exact congrArg (fun b => !b) h)) rfl rfl rfl ?_
    refine AO.nil ?_
    refine AQ.thenN ?_
    refine AW.split rfl (fun h2 => ?_) (fun h2 => ?_) <;> (try simp only [decide_eq_true_eq, decide_eq_false_iff_not, beq_iff_eq, beq_eq_false_iff_ne, bne_iff_ne, bne_eq_false_iff_eq, Bool.not_eq_true', Bool.not_eq_false', Bool.not_eq_true, Bool.not_eq_false, ne_eq, Int.not_lt, Int.not_le, Bool.and_eq_true, Bool.or_eq_true, Bool.or_eq_false_iff, Bool.and_eq_false_imp, strOf_toList, Decidable.not_not] at h2)
    · skip
      have e1 : recvR e p m now = _ := (h0.trans (if_pos h2)).trans (endR_shape _ _ _)
      refine AW.seq ?_
      refine AW.region ?_
      (refine AO.op (O.loadK rfl rfl (by repeat (first | exact List.Mem.head _ | refine List.Mem.tail _ ?_)) (by (dsimp only [List.set, List.append, List.cons_append, List.nil_append, AV.cells, splice, List.take, List.drop, Nat.reduceAdd]; done)) (by rfl)) rfl rfl rfl ?_)
      refine AO.op (O.move rfl rfl) rfl rfl rfl ?_
      (refine AO.op (O.loadK rfl rfl (by repeat (first | exact List.Mem.head _ | refine List.Mem.tail _ ?_)) (by (dsimp only [List.set, List.append, List.cons_append, List.nil_append, AV.cells, splice, List.take, List.drop, Nat.reduceAdd]; done)) (by rfl)) rfl rfl rfl ?_)
      (refine AO.callMG 2 rfl rfl Tryz.func57 rfl rfl rfl rfl rfl rfl (ended_fn (cleanE e now) p m V15 V25 V35 hV15 hV25 hV35 (by rw [cleanE_out]; omega)) ?_)
      rintro _ _ ⟨V6, hV6, rfl, rfl⟩
      dsimp only [List.cons_append, List.nil_append, List.eraseIdx]
      refine AO.op (O.extract rfl rfl rfl) rfl rfl rfl ?_
      refine AO.op (O.extract rfl rfl rfl) rfl rfl rfl ?_
      refine AO.op (O.extract rfl rfl rfl) rfl rfl rfl ?_
      refine AO.op (O.extract rfl rfl rfl) rfl rfl rfl ?_
      (refine AO.store (i := 4) rfl rfl rfl rfl rfl rfl (by (simp [AV.cells, AV.one, roB, roI, roO, show ∀ k z, (Value.int k z).oneCell' = true from fun _ _ => rfl, show ∀ k, (Value.bool k).oneCell' = true from fun _ => rfl, *]; done)) (by rfl) (by rfl) (by (dsimp only [List.set, List.append, List.cons_append, List.nil_append, AV.cells, splice, List.take, List.drop, Nat.reduceAdd]; done)) (by (dsimp only [List.set, List.append, List.cons_append, List.nil_append, AV.cells, splice, List.take, List.drop, Nat.reduceAdd]; done)) ?_)
      refine AO.op (O.assign rfl rfl) rfl rfl rfl ?_
      (refine AO.store (i := 3) rfl rfl rfl rfl rfl rfl (by rfl) (by rfl) (by rfl) (by (dsimp only [List.set, List.append, List.cons_append, List.nil_append, AV.cells, splice, List.take, List.drop, Nat.reduceAdd]; done)) (by (dsimp only [List.set, List.append, List.cons_append, List.nil_append, AV.cells, splice, List.take, List.drop, Nat.reduceAdd]; done)) ?_)
      refine AO.op (O.assign rfl rfl) rfl rfl rfl ?_
      refine AO.nil ?_
      refine AQ.thenN ?_
      refine AW.ret ?_
      refine AQ.thenR ?_
      refine AQ.g ?_
      refine G.freezeCell 0 3 1 rfl rfl rfl ?_
      refine AQ.u ?_
      dsimp only [List.eraseIdx, List.set]
      refine AQ.g ?_
      refine G.freezeCell 0 2 3 rfl rfl rfl ?_
      refine AQ.u ?_
      dsimp only [List.eraseIdx, List.set]
      refine AQ.g ?_
      refine G.freezeCell 0 1 2 rfl rfl rfl ?_
      refine AQ.u ?_
      dsimp only [List.eraseIdx, List.set]
      refine FnQ.coe (AQ.ret4G rfl (by exact ResAt.cell rfl (by repeat (first | exact List.Mem.head _ | refine List.Mem.tail _ ?_)) (by (dsimp only [List.set, List.append, List.cons_append, List.nil_append, AV.cells, splice, List.take, List.drop, Nat.reduceAdd]; done)) (by rfl)) (by exact ResAt.tmp rfl) (by exact ResAt.cell rfl (by repeat (exact List.Mem.head _)) (by (dsimp only [List.set, List.append, List.cons_append, List.nil_append, AV.cells, splice, List.take, List.drop, Nat.reduceAdd]; done)) (by rfl)) (by exact ResAt.tmp rfl) ⟨_, List.nil_sublist _, .nil⟩ ⟨rfl, rfl⟩) (Coe.tup (by (repeat (first | exact CoeL.nil | refine CoeL.cons Coe.rfl ?_)); done)) (ret4V e1 rfl)
    · skip
      have e2 : recvR e p m now = _ := h0.trans (if_neg (fun g => g.elim h2.1 h2.2))
      refine AW.skip ?_
      refine AQ.thenN ?_
      refine AW.seq ?_
      refine AW.seq ?_
      refine AW.region ?_
      refine AO.op (O.fieldAddr rfl rfl) rfl rfl rfl ?_
      refine AO.op (O.load rfl rfl (by repeat (first | exact List.Mem.head _ | refine List.Mem.tail _ ?_)) (by rfl)) rfl rfl rfl ?_
      refine AO.op (O.eql rfl rfl rfl (by rfl)) rfl rfl rfl ?_
      refine AO.nil ?_
      refine AQ.thenN ?_
      refine AW.split rfl (fun h3 => ?_) (fun h3 => ?_) <;> (try simp only [decide_eq_true_eq, decide_eq_false_iff_not, beq_iff_eq, beq_eq_false_iff_ne, bne_iff_ne, bne_eq_false_iff_eq, Bool.not_eq_true', Bool.not_eq_false', Bool.not_eq_true, Bool.not_eq_false, ne_eq, Int.not_lt, Int.not_le, Bool.and_eq_true, Bool.or_eq_true, Bool.or_eq_false_iff, Bool.and_eq_false_imp, strOf_toList, Decidable.not_not] at h3)
      · skip
        have e3 : recvR e p m now = _ := e2.trans (if_pos h3)
        refine AW.seq ?_
        refine AW.region ?_
        refine AO.opB (O.alloc rfl (by (dsimp only [zerosA, List.replicate, List.append, List.flatten, AV.cells, Value.cells, List.toList_toArray, List.map]; done)) (by rfl)) rfl rfl rfl ?_
        intro B7
        refine AO.nil ?_
        refine AQ.thenN ?_
        refine AW.seq ?_
        refine AW.seq ?_
        refine AW.region ?_
        refine AO.op (O.fieldAddr rfl rfl) rfl rfl rfl ?_
        refine AO.op (O.load rfl rfl (by repeat (first | exact List.Mem.head _ | refine List.Mem.tail _ ?_)) (by rfl)) rfl rfl rfl ?_
        refine AO.op (O.eql rfl rfl rfl (by rfl)) rfl rfl rfl ?_
        refine AO.nil ?_
        refine AQ.thenN ?_
        refine AW.split rfl (fun h59 => ?_) (fun h59 => ?_) <;> (try simp only [decide_eq_true_eq, decide_eq_false_iff_not, beq_iff_eq, beq_eq_false_iff_ne, bne_iff_ne, bne_eq_false_iff_eq, Bool.not_eq_true', Bool.not_eq_false', Bool.not_eq_true, Bool.not_eq_false, ne_eq, Int.not_lt, Int.not_le, Bool.and_eq_true, Bool.or_eq_true, Bool.or_eq_false_iff, Bool.and_eq_false_imp, strOf_toList, Decidable.not_not] at h59)
        · skip
          rw [if_pos h59] at e3
          refine AW.region ?_
          refine AO.op (O.fieldAddr rfl rfl) rfl rfl rfl ?_
          refine AO.op (O.load rfl rfl (by repeat (first | exact List.Mem.head _ | refine List.Mem.tail _ ?_)) (by rfl)) rfl rfl rfl ?_
          refine AO.op (O.build rfl rfl rfl (by rfl)) rfl rfl rfl ?_
          (refine AO.store (i := 0) rfl rfl rfl rfl rfl rfl (by rfl) (by rfl) (by rfl) (by (dsimp only [List.set, List.append, List.cons_append, List.nil_append, AV.cells, splice, List.take, List.drop, Nat.reduceAdd]; done)) (by (dsimp only [List.set, List.append, List.cons_append, List.nil_append, AV.cells, splice, List.take, List.drop, Nat.reduceAdd]; done)) ?_)
          refine AO.nil ?_
          refine AQ.thenN ?_
          refine AW.seq ?_
          refine AW.regionM [(0, false), (1, false), (2, true), (3, false), (4, true), (5, false)] (by kernel_rfl) (by kernel_rfl) (by exact (by exact splitBlk 8 5 rfl rfl (by exact splitBlk 10 4 rfl rfl splitNil))) ?_
          dsimp only [List.eraseIdx]
          (refine AM.op rfl (O.loadK rfl rfl (by repeat (first | exact List.Mem.head _ | refine List.Mem.tail _ ?_)) (by (dsimp only [List.set, List.append, List.cons_append, List.nil_append, AV.cells, splice, List.take, List.drop, Nat.reduceAdd]; done)) (by rfl)) rfl rfl rfl ?_)
          (refine AM.op rfl (O.loadK rfl rfl (by repeat (exact List.Mem.head _)) (by (dsimp only [List.set, List.append, List.cons_append, List.nil_append, AV.cells, splice, List.take, List.drop, Nat.reduceAdd]; done)) (by rfl)) rfl rfl rfl ?_)
          refine AM.main _ rfl (fun w0 R0 => ?_)
          (refine AO.store (i := 0) rfl rfl rfl rfl rfl rfl (by (simp [AV.cells, AV.one, roB, roI, roO, show ∀ k z, (Value.int k z).oneCell' = true from fun _ _ => rfl, show ∀ k, (Value.bool k).oneCell' = true from fun _ => rfl, *]; done)) (by rfl) (by rfl) (by (dsimp only [List.set, List.append, List.cons_append, List.nil_append, AV.cells, splice, List.take, List.drop, Nat.reduceAdd]; done)) (by (dsimp only [List.set, List.append, List.cons_append, List.nil_append, AV.cells, splice, List.take, List.drop, Nat.reduceAdd]; done)) ?_)
          refine AM.okN ?_
          dsimp only [putE]
          refine AM.op rfl (O.assign rfl rfl) rfl rfl rfl ?_
          refine AM.main _ rfl (fun w0 R0 => ?_)
          (refine AO.store (i := 1) rfl rfl rfl rfl rfl rfl (by rfl) (by rfl) (by rfl) (by (dsimp only [List.set, List.append, List.cons_append, List.nil_append, AV.cells, splice, List.take, List.drop, Nat.reduceAdd]; done)) (by (dsimp only [List.set, List.append, List.cons_append, List.nil_append, AV.cells, splice, List.take, List.drop, Nat.reduceAdd]; done)) ?_)
          refine AM.okN ?_
          dsimp only [putE]
          refine AM.op rfl (O.assign rfl rfl) rfl rfl rfl ?_
          refine AM.nil ?_
          dsimp only [List.cons_append, List.nil_append]
          refine AQ.thenN ?_
          refine AW.ret ?_
          refine AQ.thenR ?_
          refine AQ.g ?_
          refine G.freezeCell 3 0 3 rfl rfl rfl ?_
          refine AQ.u ?_
          dsimp only [List.eraseIdx, List.set]
          refine AQ.g ?_
          refine G.freezeCell 3 0 2 rfl rfl rfl ?_
          refine AQ.u ?_
          dsimp only [List.eraseIdx, List.set]
          refine AQ.g ?_
          refine G.freezeCell 3 0 1 rfl rfl rfl ?_
          refine AQ.u ?_
          dsimp only [List.eraseIdx, List.set]
          refine FnQ.coe (AQ.ret4G rfl (by exact ResAt.cell rfl (by repeat (exact List.Mem.head _)) (by (dsimp only [List.set, List.append, List.cons_append, List.nil_append, AV.cells, splice, List.take, List.drop, Nat.reduceAdd]; done)) (by rfl)) (by exact ResAt.tmp rfl) (by exact ResAt.cell rfl (by repeat (first | exact List.Mem.head _ | refine List.Mem.tail _ ?_)) (by (dsimp only [List.set, List.append, List.cons_append, List.nil_append, AV.cells, splice, List.take, List.drop, Nat.reduceAdd]; done)) (by rfl)) (by exact ResAt.tmp rfl) ⟨_, List.nil_sublist _, .nil⟩ ⟨rfl, rfl⟩) (Coe.tup (by (repeat (first | exact CoeL.nil | refine CoeL.cons Coe.rfl ?_ | refine CoeL.cons Coe.nil ?_ | refine CoeL.cons (Coe.agg ?_) ?_)); done)) (ret4V e3 rfl)
        · skip
          rw [if_neg h59] at e3
          refine AW.skip ?_
          refine AQ.thenN ?_
          refine AW.seq ?_
          refine AW.regionM [(0, false), (1, false), (2, true), (3, false), (4, true), (5, false)] (by kernel_rfl) (by kernel_rfl) (by exact (by exact splitBlk 8 5 rfl rfl (by exact splitBlk 10 4 rfl rfl splitNil))) ?_
          dsimp only [List.eraseIdx]
          (refine AM.op rfl (O.loadK rfl rfl (by repeat (first | exact List.Mem.head _ | refine List.Mem.tail _ ?_)) (by (dsimp only [List.set, List.append, List.cons_append, List.nil_append, AV.cells, splice, List.take, List.drop, Nat.reduceAdd]; done)) (by rfl)) rfl rfl rfl ?_)
          (refine AM.op rfl (O.loadK rfl rfl (by repeat (exact List.Mem.head _)) (by (dsimp only [List.set, List.append, List.cons_append, List.nil_append, AV.cells, splice, List.take, List.drop, Nat.reduceAdd]; done)) (by rfl)) rfl rfl rfl ?_)
          refine AM.main _ rfl (fun w0 R0 => ?_)
          (refine AO.store (i := 0) rfl rfl rfl rfl rfl rfl (by (simp [AV.cells, AV.one, roB, roI, roO, show ∀ k z, (Value.int k z).oneCell' = true from fun _ _ => rfl, show ∀ k, (Value.bool k).oneCell' = true from fun _ => rfl, *]; done)) (by rfl) (by rfl) (by (dsimp only [List.set, List.append, List.cons_append, List.nil_append, AV.cells, splice, List.take, List.drop, Nat.reduceAdd]; done)) (by (dsimp only [List.set, List.append, List.cons_append, List.nil_append, AV.cells, splice, List.take, List.drop, Nat.reduceAdd]; done)) ?_)
          refine AM.okN ?_
          dsimp only [putE]
          refine AM.op rfl (O.assign rfl rfl) rfl rfl rfl ?_
          refine AM.main _ rfl (fun w0 R0 => ?_)
          (refine AO.store (i := 1) rfl rfl rfl rfl rfl rfl (by rfl) (by rfl) (by rfl) (by (dsimp only [List.set, List.append, List.cons_append, List.nil_append, AV.cells, splice, List.take, List.drop, Nat.reduceAdd]; done)) (by (dsimp only [List.set, List.append, List.cons_append, List.nil_append, AV.cells, splice, List.take, List.drop, Nat.reduceAdd]; done)) ?_)
          refine AM.okN ?_
          dsimp only [putE]
          refine AM.op rfl (O.assign rfl rfl) rfl rfl rfl ?_
          refine AM.nil ?_
          dsimp only [List.cons_append, List.nil_append]
          refine AQ.thenN ?_
          refine AW.ret ?_
          refine AQ.thenR ?_
          refine AQ.g ?_
          refine G.freezeCell 3 0 3 rfl rfl rfl ?_
          refine AQ.u ?_
          dsimp only [List.eraseIdx, List.set]
          refine AQ.g ?_
          refine G.freezeCell 3 0 2 rfl rfl rfl ?_
          refine AQ.u ?_
          dsimp only [List.eraseIdx, List.set]
          refine AQ.g ?_
          refine G.freezeCell 3 0 1 rfl rfl rfl ?_
          refine AQ.u ?_
          dsimp only [List.eraseIdx, List.set]
          refine FnQ.coe (AQ.ret4G rfl (by exact ResAt.cell rfl (by repeat (exact List.Mem.head _)) (by (dsimp only [List.set, List.append, List.cons_append, List.nil_append, AV.cells, splice, List.take, List.drop, Nat.reduceAdd]; done)) (by rfl)) (by exact ResAt.tmp rfl) (by exact ResAt.cell rfl (by repeat (first | exact List.Mem.head _ | refine List.Mem.tail _ ?_)) (by (dsimp only [List.set, List.append, List.cons_append, List.nil_append, AV.cells, splice, List.take, List.drop, Nat.reduceAdd]; done)) (by rfl)) (by exact ResAt.tmp rfl) ⟨_, List.nil_sublist _, .nil⟩ ⟨rfl, rfl⟩) (Coe.tup (by (repeat (first | exact CoeL.nil | refine CoeL.cons Coe.rfl ?_ | refine CoeL.cons Coe.nil ?_ | refine CoeL.cons (Coe.agg ?_) ?_)); done)) (ret4V e3 rfl)
      · skip
        have e3 : recvR e p m now = _ := e2.trans (if_neg h3)
        refine AW.skip ?_
        refine AQ.thenN ?_
        refine AW.seq ?_
        refine AW.seq ?_
        refine AW.region ?_
        refine AO.op (O.fieldAddr rfl rfl) rfl rfl rfl ?_
        refine AO.op (O.load rfl rfl (by repeat (first | exact List.Mem.head _ | refine List.Mem.tail _ ?_)) (by rfl)) rfl rfl rfl ?_
        refine AO.op (O.lenRow rfl rfl (by repeat (exact List.Mem.head _))) rfl rfl rfl ?_
        refine AO.op (O.move rfl rfl) rfl rfl rfl ?_
        refine AO.nil ?_
        refine AQ.thenN ?_
        refine AW.block ?_
        refine AW.loopK [(1, _), (3, _), (4, _), (6, _), (8, _), (10, _), (66, _), (67, _)] (fun nn E H => ∃ (k : Nat), (k ≤ (cleanE e now).inn.length) ∧ (∀ q, q < k → hB p m.id (hd (cleanE e now).inn q) = false) ∧ nn = (cleanE e now).inn.length - k ∧ E = [(68, .val (.int .i64 (k : Int)))] ∧ H = [.row V35 126 10 (cleanE e now).inn.length (hdsA (cleanE e now).inn), .row V25 122 3 (cleanE e now).used.length (ussA (cleanE e now).used), .row V15 78 9 (cleanE e now).out.length (wtsA (cleanE e now).out), .blk B4 41 6 [.val (.int .i64 0), .val (.int .i64 0), .val (.int .i64 0), .val nilS, .val nilS, .val nilS], .blk B3 56 4 [.val (.int .i64 0), .val nilS, .val nilS, .val nilS], .blk B2 41 6 [.val (.int .i64 m.ty), .val (.int .i64 m.code), .val (.int .i64 m.id), roB m.tok, roO m.opts, roB m.pay], .blk B1 56 4 [.val (.int .i64 (cleanE e now).next), .val V15, .val V25, .val V35]]) _ (⟨0, by omega, fun q hq => absurd hq (by omega), rfl, rfl, rfl⟩) (by repeat (first | exact envNil | refine envCons rfl ?_)) (by repeat (first | exact envNil | refine envCons rfl ?_)) (by repeat (first | exact subPnil | refine subPcons 0 rfl ?_)) ?_
        rintro nn E H ⟨k, hk1, hn, rfl, rfl, rfl⟩
        dsimp only [List.cons_append, List.nil_append]
        refine AW.seq ?_
        refine AW.region ?_
        refine AO.op (O.lss rfl rfl rfl (by rfl)) rfl rfl rfl ?_
        refine AO.nil ?_
        refine AQ.thenN ?_
        refine AW.seq ?_
        refine AW.split rfl (fun hlt => ?_) (fun hlt => ?_) <;> (try simp only [decide_eq_true_eq, decide_eq_false_iff_not, beq_iff_eq, beq_eq_false_iff_ne, bne_iff_ne, bne_eq_false_iff_eq, Bool.not_eq_true', Bool.not_eq_false', Bool.not_eq_true, Bool.not_eq_false, ne_eq, Int.not_lt, Int.not_le, Bool.and_eq_true, Bool.or_eq_true, Bool.or_eq_false_iff, Bool.and_eq_false_imp, strOf_toList, Decidable.not_not] at hlt)
        · skip
          have hk : k < (cleanE e now).inn.length := by omega
          have hgw : ((hdsA (cleanE e now).inn).drop (0 + Int.toNat (k : Int) * 10)).take 10 = cH (hd (cleanE e now).inn k) := by rw [Nat.zero_add]; exact getH hk (by omega)
          have hmm : SmM (hd (cleanE e now).inn k).m := hsm.im _ (List.mem_filter.1 (getD_mem Hd.none hk)).1
          refine AW.g ?_
          refine G.openRow 0 rfl (by omega) (fun b cap hc1 hc2 hxs hVe => ?_)
          refine AW.u ?_
          subst hVe
          dsimp only [List.set]
          refine AW.skip ?_
          refine AQ.thenN ?_
          refine AW.seq ?_
          refine AW.block ?_
          refine AW.seq ?_
          refine AW.region ?_
          refine AO.op (O.idxV rfl rfl rfl ⟨(by omega), (by omega)⟩) rfl rfl rfl ?_
          refine AO.op (O.loadK rfl rfl (by repeat (exact List.Mem.head _)) (by exact hgw) (by rfl)) rfl rfl rfl ?_
          refine AO.opB (O.alloc rfl (by (dsimp only [zerosA, List.replicate, List.append, List.flatten, AV.cells, Value.cells, List.toList_toArray, List.map]; done)) (by rfl)) rfl rfl rfl ?_
          intro B8
          (refine AO.store (i := 0) rfl rfl rfl rfl rfl rfl (by rfl) (by rfl) (by rfl) (by (dsimp only [List.set, List.append, List.cons_append, List.nil_append, AV.cells, splice, List.take, List.drop, Nat.reduceAdd]; done)) (by (dsimp only [List.set, List.append, List.cons_append, List.nil_append, AV.cells, splice, List.take, List.drop, Nat.reduceAdd]; done)) ?_)
          refine AO.nil ?_
          refine AQ.thenN ?_
          refine AW.seq ?_
          refine AW.region ?_
          refine AO.op (O.fieldAddr rfl rfl) rfl rfl rfl ?_
          refine AO.op (O.load rfl rfl (by repeat (exact List.Mem.head _)) (by rfl)) rfl rfl rfl ?_
          refine AO.op (O.move rfl rfl) rfl rfl rfl ?_
          refine AO.op (O.eql rfl rfl rfl (by rfl)) rfl rfl rfl ?_
          refine AO.op (O.move rfl rfl) rfl rfl rfl ?_
          refine AO.opG rfl rfl rfl (fun hp => O.fieldAddr rfl rfl) ?_
          refine AO.opG rfl rfl rfl (fun hp => OpW.force 77 rfl (by exact hp) (O.load rfl rfl (by repeat (exact List.Mem.head _)) (by rfl))) ?_
          refine AO.opG rfl rfl rfl (fun hp => O.fieldAddr rfl rfl) ?_
          refine AO.opG rfl rfl rfl (fun hp => OpW.force 79 rfl (by exact hp) (O.load rfl rfl (by repeat (first | exact List.Mem.head _ | refine List.Mem.tail _ ?_)) (by rfl))) ?_
          refine AO.opG rfl rfl rfl (fun hp => OpW.force 78 rfl (by exact hp) (OpW.force 80 rfl (by exact hp) (O.eql rfl rfl rfl (by rfl)))) ?_
          refine AO.op (O.pickAnd rfl rfl rfl rfl (fun h => by exact h)) rfl rfl rfl ?_
          refine AO.nil ?_
          refine AQ.thenN ?_
          refine AW.split rfl (fun h82 => ?_) (fun h82 => ?_) <;> (try simp only [decide_eq_true_eq, decide_eq_false_iff_not, beq_iff_eq, beq_eq_false_iff_ne, bne_iff_ne, bne_eq_false_iff_eq, Bool.not_eq_true', Bool.not_eq_false', Bool.not_eq_true, Bool.not_eq_false, ne_eq, Int.not_lt, Int.not_le, Bool.and_eq_true, Bool.or_eq_true, Bool.or_eq_false_iff, Bool.and_eq_false_imp, strOf_toList, Decidable.not_not] at h82)
          · skip
            have e0 := fi_some (hB p m.id) Hd.none hk (by rw [hB, Bool.and_eq_true, beq_iff_eq, beq_iff_eq]; exact h82) hn
            have e4 : recvR e p m now = (cleanE e now, 2, (hd (cleanE e now).inn k).m, 0) := e3.trans (by rw [gotR, e0])
            refine AW.seq ?_
            refine AW.regionD 4 (by kernel_rfl) (by kernel_rfl) ?_
            simp only [List.take_succ_cons, List.take_zero, List.drop_succ_cons, List.drop_zero]
            refine FA.op (O.loadK rfl rfl (by repeat (first | exact List.Mem.head _ | refine List.Mem.tail _ ?_)) (by rfl) (by rfl)) rfl rfl rfl rfl ?_
            refine FA.op (O.fieldAddr rfl rfl) rfl rfl rfl rfl ?_
            refine FA.op (O.loadK rfl rfl (by repeat (exact List.Mem.head _)) (by rfl) (by rfl)) rfl rfl rfl rfl ?_
            refine FA.op (O.call rfl Tryz.func56 rfl rfl rfl (message_fn (hd (cleanE e now).inn k).m hmm)) rfl rfl rfl rfl ?_
            refine FA.nil ?_
            simp only [chosen, List.nil_append, List.cons_append, List.append_nil]
            (refine AO.store (i := 5) rfl rfl rfl rfl rfl rfl (by (simp [AV.cells, AV.one, roB, roI, roO, show ∀ k z, (Value.int k z).oneCell' = true from fun _ _ => rfl, show ∀ k, (Value.bool k).oneCell' = true from fun _ => rfl, *]; done)) (by rfl) (by rfl) (by (dsimp only [List.set, List.append, List.cons_append, List.nil_append, AV.cells, splice, List.take, List.drop, Nat.reduceAdd]; done)) (by (dsimp only [List.set, List.append, List.cons_append, List.nil_append, AV.cells, splice, List.take, List.drop, Nat.reduceAdd]; done)) ?_)
            refine AO.op (O.assign rfl rfl) rfl rfl rfl ?_
            (refine AO.store (i := 4) rfl rfl rfl rfl rfl rfl (by rfl) (by rfl) (by rfl) (by (dsimp only [List.set, List.append, List.cons_append, List.nil_append, AV.cells, splice, List.take, List.drop, Nat.reduceAdd]; done)) (by (dsimp only [List.set, List.append, List.cons_append, List.nil_append, AV.cells, splice, List.take, List.drop, Nat.reduceAdd]; done)) ?_)
            refine AO.op (O.assign rfl rfl) rfl rfl rfl ?_
            refine AO.nil ?_
            refine AQ.thenN ?_
            refine AW.ret ?_
            refine AQ.blockR ?_
            refine AQ.thenR ?_
            refine AQ.loopR ?_
            refine AQ.blockR ?_
            refine AQ.thenR ?_
            refine AQ.g ?_
            refine G.closeRow (b := b) (sz := 10) (n := (cleanE e now).inn.length) (cap := cap) 1 rfl hxs rfl hc1 hc2 ?_
            refine AQ.u ?_
            dsimp only [List.set]
            refine AQ.g ?_
            refine G.freezeCell 1 4 3 rfl rfl rfl ?_
            refine AQ.u ?_
            dsimp only [List.eraseIdx, List.set]
            refine AQ.g ?_
            refine G.freezeCell 1 3 2 rfl rfl rfl ?_
            refine AQ.u ?_
            dsimp only [List.eraseIdx, List.set]
            refine AQ.g ?_
            refine G.freezeCell 1 2 1 rfl rfl rfl ?_
            refine AQ.u ?_
            dsimp only [List.eraseIdx, List.set]
            refine FnQ.coe (AQ.ret4G rfl (by exact ResAt.cell rfl (by repeat (first | exact List.Mem.head _ | refine List.Mem.tail _ ?_)) (by (dsimp only [List.set, List.append, List.cons_append, List.nil_append, AV.cells, splice, List.take, List.drop, Nat.reduceAdd]; done)) (by rfl)) (by exact ResAt.tmp rfl) (by exact ResAt.cell rfl (by repeat (first | exact List.Mem.head _ | refine List.Mem.tail _ ?_)) (by (dsimp only [List.set, List.append, List.cons_append, List.nil_append, AV.cells, splice, List.take, List.drop, Nat.reduceAdd]; done)) (by rfl)) (by exact ResAt.tmp rfl) ⟨_, List.nil_sublist _, .nil⟩ ⟨rfl, rfl⟩) (Coe.tup (by (repeat (first | exact CoeL.nil | refine CoeL.cons Coe.rfl ?_)); done)) (ret4V e4 rfl)
          · skip
            refine AW.skip ?_
            refine AQ.blockN ?_
            refine AQ.thenN ?_
            refine AW.region ?_
            refine AO.op (O.add rfl rfl rfl (by exact wI64 (by omega))) rfl rfl rfl ?_
            refine AO.op (O.move rfl rfl) rfl rfl rfl ?_
            refine AO.nil ?_
            refine AQ.g ?_
            refine G.closeRow (b := b) (sz := 10) (n := (cleanE e now).inn.length) (cap := cap) 1 rfl hxs rfl hc1 hc2 ?_
            refine AQ.u ?_
            dsimp only [List.set]
            refine AQ.loopKN _ _ _ (by omega) (⟨k + 1, by omega, fun q hq => (Nat.lt_or_ge q k).elim (hn q) (fun h => by rw [show q = k by omega, hB, Bool.eq_false_iff, ne_eq, Bool.and_eq_true, beq_iff_eq, beq_iff_eq]; exact fun ⟨a, b⟩ => h82 a b), rfl, rfl, rfl⟩) (by repeat (first | exact envNil | refine envCons rfl ?_)) (by repeat (first | exact envNil | refine envCons rfl ?_)) (by repeat (first | exact subPnil | refine subPcons 1 rfl ?_))
        · skip
          obtain rfl : k = (cleanE e now).inn.length := by omega
          have e0 := fi_none (hB p m.id) Hd.none hn
          refine AW.exit ?_
          refine AQ.thenX ?_
          refine AQ.loopX ?_
          refine AQ.blockX rfl ?_
          refine AQ.thenN ?_
          refine AW.seq ?_
          refine AW.seq ?_
          refine AW.region ?_
          refine AO.op (O.fieldAddr rfl rfl) rfl rfl rfl ?_
          refine AO.op (O.load rfl rfl (by repeat (first | exact List.Mem.head _ | refine List.Mem.tail _ ?_)) (by rfl)) rfl rfl rfl ?_
          refine AO.op (O.lenRow rfl rfl (by repeat (exact List.Mem.head _))) rfl rfl rfl ?_
          refine AO.op (O.geq rfl rfl rfl (by rfl)) rfl rfl rfl ?_
          refine AO.nil ?_
          refine AQ.thenN ?_
          refine AW.split rfl (fun h91 => ?_) (fun h91 => ?_) <;> (try simp only [decide_eq_true_eq, decide_eq_false_iff_not, beq_iff_eq, beq_eq_false_iff_ne, bne_iff_ne, bne_eq_false_iff_eq, Bool.not_eq_true', Bool.not_eq_false', Bool.not_eq_true, Bool.not_eq_false, ne_eq, Int.not_lt, Int.not_le, Bool.and_eq_true, Bool.or_eq_true, Bool.or_eq_false_iff, Bool.and_eq_false_imp, strOf_toList, Decidable.not_not] at h91)
          · skip
            have e4 : recvR e p m now = (cleanE e now, 6, Msg.none, 0) := e3.trans (by rw [gotR, e0]; exact if_pos (by omega))
            refine AW.seq ?_
            refine AW.region ?_
            refine AO.op (O.loadK rfl rfl (by repeat (first | exact List.Mem.head _ | refine List.Mem.tail _ ?_)) (by rfl) (by rfl)) rfl rfl rfl ?_
            refine AO.op (O.build rfl rfl rfl (by rfl)) rfl rfl rfl ?_
            (refine AO.store (i := 4) rfl rfl rfl rfl rfl rfl (by (simp [AV.cells, AV.one, roB, roI, roO, show ∀ k z, (Value.int k z).oneCell' = true from fun _ _ => rfl, show ∀ k, (Value.bool k).oneCell' = true from fun _ => rfl, *]; done)) (by rfl) (by rfl) (by (dsimp only [List.set, List.append, List.cons_append, List.nil_append, AV.cells, splice, List.take, List.drop, Nat.reduceAdd]; done)) (by (dsimp only [List.set, List.append, List.cons_append, List.nil_append, AV.cells, splice, List.take, List.drop, Nat.reduceAdd]; done)) ?_)
            refine AO.op (O.assign rfl rfl) rfl rfl rfl ?_
            (refine AO.store (i := 3) rfl rfl rfl rfl rfl rfl (by rfl) (by rfl) (by rfl) (by (dsimp only [List.set, List.append, List.cons_append, List.nil_append, AV.cells, splice, List.take, List.drop, Nat.reduceAdd]; done)) (by (dsimp only [List.set, List.append, List.cons_append, List.nil_append, AV.cells, splice, List.take, List.drop, Nat.reduceAdd]; done)) ?_)
            refine AO.op (O.assign rfl rfl) rfl rfl rfl ?_
            refine AO.nil ?_
            refine AQ.thenN ?_
            refine AW.ret ?_
            refine AQ.thenR ?_
            refine AQ.g ?_
            refine G.freezeCell 0 3 3 rfl rfl rfl ?_
            refine AQ.u ?_
            dsimp only [List.eraseIdx, List.set]
            refine AQ.g ?_
            refine G.freezeCell 0 2 2 rfl rfl rfl ?_
            refine AQ.u ?_
            dsimp only [List.eraseIdx, List.set]
            refine AQ.g ?_
            refine G.freezeCell 0 1 1 rfl rfl rfl ?_
            refine AQ.u ?_
            dsimp only [List.eraseIdx, List.set]
            refine FnQ.coe (AQ.ret4G rfl (by exact ResAt.cell rfl (by repeat (first | exact List.Mem.head _ | refine List.Mem.tail _ ?_)) (by (dsimp only [List.set, List.append, List.cons_append, List.nil_append, AV.cells, splice, List.take, List.drop, Nat.reduceAdd]; done)) (by rfl)) (by exact ResAt.tmp rfl) (by exact ResAt.cell rfl (by repeat (exact List.Mem.head _)) (by (dsimp only [List.set, List.append, List.cons_append, List.nil_append, AV.cells, splice, List.take, List.drop, Nat.reduceAdd]; done)) (by rfl)) (by exact ResAt.tmp rfl) ⟨_, List.nil_sublist _, .nil⟩ ⟨rfl, rfl⟩) (Coe.tup (by (repeat (first | exact CoeL.nil | refine CoeL.cons Coe.rfl ?_ | refine CoeL.cons Coe.nil ?_ | refine CoeL.cons (Coe.agg ?_) ?_)); done)) (ret4V e4 rfl)
          · skip
            have e4 : recvR e p m now = (⟨(cleanE e now).next, (cleanE e now).out, (cleanE e now).used, (cleanE e now).inn ++ [⟨p, m.id, now + 128, false, Msg.none⟩]⟩, 1, Msg.none, 0) := e3.trans (by rw [gotR, e0]; exact if_neg (by omega))
            refine AW.skip ?_
            refine AQ.thenN ?_
            refine AW.seq ?_
            refine AW.region ?_
            refine AO.op (O.fieldAddr rfl rfl) rfl rfl rfl ?_
            refine AO.op (O.load rfl rfl (by repeat (first | exact List.Mem.head _ | refine List.Mem.tail _ ?_)) (by rfl)) rfl rfl rfl ?_
            refine AO.op (O.move rfl rfl) rfl rfl rfl ?_
            refine AO.op (O.fieldAddr rfl rfl) rfl rfl rfl ?_
            refine AO.op (O.load rfl rfl (by repeat (first | exact List.Mem.head _ | refine List.Mem.tail _ ?_)) (by rfl)) rfl rfl rfl ?_
            refine AO.op (O.move rfl rfl) rfl rfl rfl ?_
            refine AO.op (O.add rfl rfl rfl (by exact wI64 (by omega))) rfl rfl rfl ?_
            refine AO.op (O.build rfl rfl rfl (by rfl)) rfl rfl rfl ?_
            refine AO.opB (O.buildSlice rfl rfl rfl (by rfl) (by rfl) (by rfl) (by rfl)) rfl rfl rfl ?_
            intro B9
            refine AO.g ?_
            (refine G.freezeSl 0 102 rfl rfl ⟨Nat.le_refl _, by unfold maxLen; omega⟩ ?_)
            refine G.unfull 102 rfl ?_
            refine AO.u ?_
            dsimp only [List.eraseIdx]
            (refine AO.append' (i := 0) rfl rfl rfl rfl (by rfl) (by rfl) rfl rfl rfl (by exact SrcA.ro TyD.ax (by rfl) (Nat.le_of_ble_eq_true rfl)) (by rfl) (by (unfold maxLen; omega)) (by omega) (by (dsimp only [List.set, List.append, List.cons_append, List.nil_append, AV.cells, splice, List.take, List.drop, Nat.reduceAdd]; done)) (fun _ => by (dsimp only [List.set]; done)) ?_)
            intro V10 hV10
            refine AO.op (O.fieldAddr rfl rfl) rfl rfl rfl ?_
            (refine AO.store (i := 6) rfl rfl rfl rfl rfl rfl (by (simp [AV.cells, AV.one, *]; done)) (by rfl) (by rfl) (by (dsimp only [List.set, List.append, List.cons_append, List.nil_append, AV.cells, splice, List.take, List.drop, Nat.reduceAdd]; done)) (by (dsimp only [List.set, List.append, List.cons_append, List.nil_append, AV.cells, splice, List.take, List.drop, Nat.reduceAdd]; done)) ?_)
            refine AO.nil ?_
            refine AQ.thenN ?_
            refine AW.seq ?_
            refine AW.region ?_
            refine AO.op (O.loadK rfl rfl (by repeat (first | exact List.Mem.head _ | refine List.Mem.tail _ ?_)) (by rfl) (by rfl)) rfl rfl rfl ?_
            refine AO.op (O.build rfl rfl rfl (by rfl)) rfl rfl rfl ?_
            (refine AO.store (i := 4) rfl rfl rfl rfl rfl rfl (by (simp [AV.cells, AV.one, roB, roI, roO, show ∀ k z, (Value.int k z).oneCell' = true from fun _ _ => rfl, show ∀ k, (Value.bool k).oneCell' = true from fun _ => rfl, *]; done)) (by rfl) (by rfl) (by (dsimp only [List.set, List.append, List.cons_append, List.nil_append, AV.cells, splice, List.take, List.drop, Nat.reduceAdd]; done)) (by (dsimp only [List.set, List.append, List.cons_append, List.nil_append, AV.cells, splice, List.take, List.drop, Nat.reduceAdd]; done)) ?_)
            refine AO.op (O.assign rfl rfl) rfl rfl rfl ?_
            (refine AO.store (i := 3) rfl rfl rfl rfl rfl rfl (by rfl) (by rfl) (by rfl) (by (dsimp only [List.set, List.append, List.cons_append, List.nil_append, AV.cells, splice, List.take, List.drop, Nat.reduceAdd]; done)) (by (dsimp only [List.set, List.append, List.cons_append, List.nil_append, AV.cells, splice, List.take, List.drop, Nat.reduceAdd]; done)) ?_)
            refine AO.op (O.assign rfl rfl) rfl rfl rfl ?_
            refine AO.nil ?_
            refine AQ.thenN ?_
            refine AW.ret ?_
            refine AQ.g ?_
            refine G.coeRow 0 ((cleanE e now).inn ++ [(⟨p, m.id, now + 128, false, Msg.none⟩ : Hd)]).length (hdsA ((cleanE e now).inn ++ [(⟨p, m.id, now + 128, false, Msg.none⟩ : Hd)])) rfl (snoc_len _ _) (by rw [hdsA_snoc]; refine CoeL.app CoeL.refl ?_; repeat (first | exact CoeL.nil | refine CoeL.cons Coe.rfl ?_ | refine CoeL.cons Coe.nil ?_)) ?_
            refine AQ.u ?_
            dsimp only [List.set]
            refine AQ.g ?_
            refine G.freezeCell 0 3 3 rfl rfl rfl ?_
            refine AQ.u ?_
            dsimp only [List.eraseIdx, List.set]
            refine AQ.g ?_
            refine G.freezeCell 0 2 2 rfl rfl rfl ?_
            refine AQ.u ?_
            dsimp only [List.eraseIdx, List.set]
            refine AQ.g ?_
            refine G.freezeCell 0 1 1 rfl rfl rfl ?_
            refine AQ.u ?_
            dsimp only [List.eraseIdx, List.set]
            refine FnQ.coe (AQ.ret4G rfl (by exact ResAt.cell rfl (by repeat (first | exact List.Mem.head _ | refine List.Mem.tail _ ?_)) (by (dsimp only [List.set, List.append, List.cons_append, List.nil_append, AV.cells, splice, List.take, List.drop, Nat.reduceAdd]; done)) (by rfl)) (by exact ResAt.tmp rfl) (by exact ResAt.cell rfl (by repeat (exact List.Mem.head _)) (by (dsimp only [List.set, List.append, List.cons_append, List.nil_append, AV.cells, splice, List.take, List.drop, Nat.reduceAdd]; done)) (by rfl)) (by exact ResAt.tmp rfl) ⟨_, List.nil_sublist _, .nil⟩ ⟨rfl, rfl⟩) (Coe.tup (by (repeat (first | exact CoeL.nil | refine CoeL.cons Coe.rfl ?_ | refine CoeL.cons Coe.nil ?_ | refine CoeL.cons (Coe.agg ?_) ?_)); done)) (ret4V e4 rfl)
end Go.Proofs.YtoonnnifelnaiaaGreatDoor.By

namespace Go.Proofs.YtoonnnifelnaiaaGreatDoor.By
open Go.RowKit L A
set_option linter.unusedVariables false
set_option maxRecDepth 20000
set_option linter.unusedSimpArgs false
attribute [local irreducible] AW AQ AO
end Go.Proofs.YtoonnnifelnaiaaGreatDoor.By

namespace Go.Proofs.YtoonnnifelnaiaaGreatDoor.By
open Go.RowKit L A
set_option linter.unusedVariables false
set_option maxRecDepth 20000
set_option linter.unusedSimpArgs false
attribute [local irreducible] AW AQ AO
theorem splice_right : ∀ (ys A X : List AV) (c j : Nat), j = A.length + c → splice (A ++ X) j ys = A ++ splice X c ys
  | [], A, X, c, j, h => rfl
  | y :: ys, A, X, c, j, h => by
    subst h
    show splice ((A ++ X).set (A.length + c) y) (A.length + c + 1) ys = A ++ splice (X.set c y) (c + 1) ys
    rw [List.set_append_right _ _ (by omega), show A.length + c - A.length = c by omega, splice_right ys A (X.set c y) (c + 1) _ (by omega)]
theorem splice_left : ∀ (ys B C : List AV) (c : Nat), c + ys.length ≤ B.length → splice (B ++ C) c ys = splice B c ys ++ C
  | [], B, C, c, h => rfl
  | y :: ys, B, C, c, h => by
    have h : c + (ys.length + 1) ≤ B.length := h
    show splice ((B ++ C).set c y) (c + 1) ys = splice (B.set c y) (c + 1) ys ++ C
    rw [List.set_append_left _ _ (by omega), splice_left ys (B.set c y) C (c + 1) (by rw [List.length_set]; omega)]
theorem flat_splice {α : Type} {f : α → List AV} {k : Nat} (hf : ∀ a, (f a).length = k) (d : α) {l : List α} {i c : Nat} (h : i < l.length) {ys : List AV} (hc : c + ys.length ≤ k) {a : α} (ha : splice (f (l.getD i d)) c ys = f a) {j : Nat} (hj : j = i * k + c) : splice (l.flatMap f) j ys = (l.set i a).flatMap f := by
  have e : l.flatMap f = (l.flatMap f).take (i * k) ++ (f (l.getD i d) ++ (l.flatMap f).drop (i * k + k)) := by
    have h1 := flat_at hf d h rfl
    rw [← h1, ← List.drop_drop, List.take_append_drop, List.take_append_drop]
  have hl : ((l.flatMap f).take (i * k)).length = i * k := by
    rw [List.length_take, flat_len hf, Nat.min_eq_left (Nat.mul_le_mul_right k (by omega))]
  rw [e, splice_right ys _ _ c j (by rw [hl]; exact hj), splice_left ys _ _ c (by rw [hf]; exact hc), ha, flat_set hf a h, List.append_assoc]
theorem cellHi {l : List Hd} {k : Nat} (h : k < l.length) (c : Nat) (hc : c < 10) {j : Nat} (hj : j = k * 10 + c) {v : AV} (hv : (cellsH (hd l k))[c]? = some v) : (hdsA l)[j]? = some v := (cellH h hc hj).trans hv
theorem splice_ans {l : List Hd} {k : Nat} (h : k < l.length) {j : Nat} (hj : j = k * 10 + 3) : splice (hdsA l) j [.val (.bool true)] = hdsA (l.set k { hd l k with ans := true }) := flat_splice cellsH_len Hd.none h (c := 3) (by decide) rfl hj
theorem splice_msg {l : List Hd} {k : Nat} (h : k < l.length) (m : Msg) {j : Nat} (hj : j = k * 10 + 4) : splice (hdsA (l.set k { hd l k with ans := true })) j [.val (.int .i64 m.ty), .val (.int .i64 m.code), .val (.int .i64 m.id), roB m.tok, roO m.opts, roB m.pay] = hdsA (l.set k { hd l k with ans := true, m := m }) := by
  have h2 : k < (l.set k { hd l k with ans := true }).length := by rw [List.length_set]; exact h
  have e : (l.set k { hd l k with ans := true }).getD k Hd.none = { hd l k with ans := true } := by simp [h]
  refine (flat_splice cellsH_len Hd.none h2 (c := 4) (ys := [.val (.int .i64 m.ty), .val (.int .i64 m.code), .val (.int .i64 m.id), roB m.tok, roO m.opts, roB m.pay]) (by show 4 + 6 ≤ 10; omega) (a := { hd l k with ans := true, m := m }) (by rw [e]; rfl) hj).trans ?_
  rw [List.set_set]; rfl
abbrev ackM (m : Msg) (id : Int) : Msg := ⟨2, m.code, id, m.tok, m.opts, m.pay⟩
def answerR (e : Ep) (p id : Int) (m : Msg) (now : Int) : Ep × Msg × Int :=
  if RecvOk e p (ackM m id) now then
    match (cleanE e now).inn.findIdx? (hB p id) with
    | some i => if (hd (cleanE e now).inn i).ans = true then (Ep.none, Msg.none, 15)
      else (⟨e.next, e.out, (cleanE e now).used, (cleanE e now).inn.set i { hd (cleanE e now).inn i with ans := true, m := ackM m id }⟩, ackM m id, 0)
    | none => (Ep.none, Msg.none, 10)
  else (Ep.none, Msg.none, 1)
set_option maxHeartbeats 4000000 in
theorem answer_fn (e : Ep) (p id : Int) (m : Msg) (now : Int) (hb : BdE e) : Sp Tryz.prog 23 [aggE e, .val (.int .i64 p), .val (.int .i64 id), aggM m, .val (.int .i64 now)] [] (Is (resS (answerR e p id m now))) := by
  refine Sp.enter Tryz.func23 rfl _ Tryz.ntmps23 rfl (fun w0 R0 => ?_)
  refine AW.seq ?_
  refine AW.region ?_
  refine AO.opB (O.box rfl rfl rfl rfl rfl) rfl rfl rfl ?_
  intro B1
  refine AO.opB (O.box rfl rfl rfl rfl rfl) rfl rfl rfl ?_
  intro B2
  refine AO.opB (O.alloc rfl (by (dsimp only [zerosA, List.replicate, List.append, List.flatten, AV.cells, Value.cells, List.toList_toArray, List.map]; done)) (by rfl)) rfl rfl rfl ?_
  intro B3
  refine AO.opB (O.alloc rfl (by (dsimp only [zerosA, List.replicate, List.append, List.flatten, AV.cells, Value.cells, List.toList_toArray, List.map]; done)) (by rfl)) rfl rfl rfl ?_
  intro B4
  refine AO.op (O.assign rfl rfl) rfl rfl rfl ?_
  refine AO.nil ?_
  refine AQ.thenN ?_
  refine AW.seq ?_
  refine AW.region ?_
  refine AO.op (O.move rfl rfl) rfl rfl rfl ?_
  refine AO.op (O.fieldAddr rfl rfl) rfl rfl rfl ?_
  (refine AO.store (i := 2) rfl rfl rfl rfl rfl rfl (by rfl) (by rfl) (by rfl) (by (dsimp only [List.set, List.cons_append, List.nil_append, List.take, List.drop]; done)) (by (dsimp only [List.set, List.cons_append, List.nil_append, List.take, List.drop]; done)) ?_)
  refine AO.op (O.fieldAddr rfl rfl) rfl rfl rfl ?_
  (refine AO.store (i := 2) rfl rfl rfl rfl rfl rfl (by rfl) (by rfl) (by rfl) (by (dsimp only [List.set, List.cons_append, List.nil_append, List.take, List.drop]; done)) (by (dsimp only [List.set, List.cons_append, List.nil_append, List.take, List.drop]; done)) ?_)
  refine AO.nil ?_
  refine AQ.thenN ?_
  refine AW.seq ?_
  refine AW.seq ?_
  refine AW.region ?_
  (refine AO.op (O.loadK rfl rfl (by repeat (first | exact List.Mem.head _ | refine List.Mem.tail _ ?_)) (by (dsimp only [List.set, List.cons_append, List.nil_append, List.take, List.drop]; done)) (by rfl)) rfl rfl rfl ?_)
  refine AO.op (O.call rfl Tryz.func50 rfl rfl rfl (evalid_fn e hb)) rfl rfl rfl ?_
  refine AO.op (O.not rfl rfl (by rfl)) rfl rfl rfl ?_
  refine AO.op (O.move rfl rfl) rfl rfl rfl ?_
  refine AO.opG rfl rfl rfl (fun hp => O.move rfl rfl) ?_
  refine AO.opG rfl rfl rfl (fun hp => OpW.force 22 rfl (by exact hp) (O.call rfl Tryz.func51 rfl rfl rfl (timeOK_fn _))) ?_
  refine AO.opG rfl rfl rfl (fun hp => OpW.force 23 rfl (by exact hp) (O.not rfl rfl (by rfl))) ?_
  refine AO.op (O.pickOr rfl rfl rfl rfl (fun h => by exact congrArg (fun b => !b) h)) rfl rfl rfl ?_
  refine AO.op (O.move rfl rfl) rfl rfl rfl ?_
  refine AO.opG rfl rfl rfl (fun hp => O.move rfl rfl) ?_
  refine AO.opG rfl rfl rfl (fun hp => OpW.force 27 rfl (by exact hp) (O.call rfl Tryz.func52 rfl rfl rfl (peerOK_fn _))) ?_
  refine AO.opG rfl rfl rfl (fun hp => OpW.force 28 rfl (by exact hp) (O.not rfl rfl (by rfl))) ?_
  refine AO.op (O.pickOr rfl rfl rfl rfl (fun h => by exact congrArg (fun b => !b) h)) rfl rfl rfl ?_
  refine AO.op (O.move rfl rfl) rfl rfl rfl ?_
  (refine AO.opG rfl rfl rfl (fun hp => O.loadK rfl rfl (by repeat (first | exact List.Mem.head _ | refine List.Mem.tail _ ?_)) (by (dsimp only [List.set, List.cons_append, List.nil_append, List.take, List.drop]; done)) (by rfl)) ?_)
  refine AO.opG rfl rfl rfl (fun hp => OpW.force 32 rfl (by exact hp) (O.call rfl Tryz.func53 rfl rfl rfl (valid_fn (ackM m id)))) ?_
  refine AO.opG rfl rfl rfl (fun hp => OpW.force 33 rfl (by exact hp) (O.not rfl rfl (by rfl))) ?_
  refine AO.op (O.pickOr rfl rfl rfl rfl (fun h => by exact congrArg (fun b => !b) h)) rfl rfl rfl ?_
  refine AO.nil ?_
  refine AQ.thenN ?_
  refine AW.split rfl (fun h => ?_) (fun h => ?_) <;> (try simp only [decide_eq_true_eq, decide_eq_false_iff_not, beq_iff_eq, beq_eq_false_iff_ne, bne_iff_ne, bne_eq_false_iff_eq, Bool.not_eq_true', Bool.not_eq_false', Bool.not_eq_true, Bool.not_eq_false, ne_eq, Int.not_lt, Int.not_le, Bool.and_eq_true, Bool.or_eq_true, Bool.or_eq_false_iff, Bool.and_eq_false_imp, strOf_toList, Decidable.not_not] at h)
  · skip
    have e1 : answerR e p id m now = (Ep.none, Msg.none, 1) := if_neg (by
      rintro ⟨h1, h2, h3, h4⟩
      rcases h with ((h | h) | h) | h
      · exact h h1
      · exact h h2
      · exact h h3
      · exact h h4)
    refine AW.seq ?_
    refine AW.region ?_
    refine AO.op (O.build rfl rfl rfl (by rfl)) rfl rfl rfl ?_
    refine AO.op (O.build rfl rfl rfl (by rfl)) rfl rfl rfl ?_
    (refine AO.store (i := 1) rfl rfl rfl rfl rfl rfl (by rfl) (by rfl) (by rfl) (by (dsimp only [List.set, List.cons_append, List.nil_append, List.take, List.drop]; done)) (by (dsimp only [List.set, List.cons_append, List.nil_append, List.take, List.drop]; done)) ?_)
    (refine AO.store (i := 0) rfl rfl rfl rfl rfl rfl (by rfl) (by rfl) (by rfl) (by (dsimp only [List.set, List.cons_append, List.nil_append, List.take, List.drop]; done)) (by (dsimp only [List.set, List.cons_append, List.nil_append, List.take, List.drop]; done)) ?_)
    refine AO.op (O.assign rfl rfl) rfl rfl rfl ?_
    refine AO.nil ?_
    refine AQ.thenN ?_
    refine AW.ret ?_
    refine AQ.thenR ?_
    refine FnQ.coe (AQ.ret3G rfl (by exact ResAt.cell rfl (by repeat (first | exact List.Mem.head _ | refine List.Mem.tail _ ?_)) (by (dsimp only [List.set, List.cons_append, List.nil_append, List.take, List.drop]; done)) (by rfl)) (by exact ResAt.cell rfl (by repeat (exact List.Mem.head _)) (by (dsimp only [List.set, List.cons_append, List.nil_append, List.take, List.drop]; done)) (by rfl)) (by exact ResAt.tmp rfl) ⟨_, List.nil_sublist _, .nil⟩ ⟨rfl, rfl⟩) (Coe.tup (by (repeat (first | exact CoeL.nil | refine CoeL.cons Coe.rfl ?_ | refine CoeL.cons Coe.nil ?_ | refine CoeL.cons (Coe.agg ?_) ?_)); done)) (ret3S e1 rfl)
  · skip
    obtain ⟨⟨⟨hv, ht⟩, hp⟩, hvm⟩ := h
    have hok : RecvOk e p (ackM m id) now := ⟨hv, ht, hp, hvm⟩
    have hsm := ValE.sm hv
    have hmm : SmM (ackM m id) := ValM.sm hvm
    have hv4 := hv.2.2.2.1
    have hci := clean_inn e now
    have h0 : answerR e p id m now = _ := if_pos hok
    have hco : (cleanE e now).out = e.out := rfl
    have hcn : (cleanE e now).next = e.next := rfl
    refine AW.skip ?_
    refine AQ.thenN ?_
    refine AW.seq ?_
    refine AW.region ?_
    (refine AO.op (O.loadK rfl rfl (by repeat (first | exact List.Mem.head _ | refine List.Mem.tail _ ?_)) (by (dsimp only [List.set, List.cons_append, List.nil_append, List.take, List.drop]; done)) (by rfl)) rfl rfl rfl ?_)
    refine AO.op (O.move rfl rfl) rfl rfl rfl ?_
    refine AO.opN (O.call rfl Tryz.func54 rfl rfl rfl (cleaned_fn e now hsm)) rfl rfl rfl ?_
    rintro _ _ ⟨V15, V25, V35, hV15, hV25, hV35, rfl, rfl⟩
    simp only [List.cons_append, List.nil_append]
    (refine AO.store (i := 6) rfl rfl rfl rfl rfl rfl (by (simp [AV.cells, AV.one, roB, roI, roO, show ∀ k z, (Value.int k z).oneCell' = true from fun _ _ => rfl, show ∀ k, (Value.bool k).oneCell' = true from fun _ => rfl, *]; done)) (by rfl) (by rfl) (by (dsimp only [List.set, List.cons_append, List.nil_append, List.take, List.drop]; done)) (by (dsimp only [List.set, List.cons_append, List.nil_append, List.take, List.drop]; done)) ?_)
    refine AO.nil ?_
    refine AQ.thenN ?_
    refine AW.seq ?_
    refine AW.seq ?_
    refine AW.region ?_
    refine AO.op (O.fieldAddr rfl rfl) rfl rfl rfl ?_
    refine AO.op (O.load rfl rfl (by repeat (first | exact List.Mem.head _ | refine List.Mem.tail _ ?_)) (by rfl)) rfl rfl rfl ?_
    refine AO.op (O.lenRow rfl rfl (by repeat (exact List.Mem.head _))) rfl rfl rfl ?_
    refine AO.op (O.move rfl rfl) rfl rfl rfl ?_
    refine AO.nil ?_
    refine AQ.thenN ?_
    refine AW.block ?_
    rw [← hco, ← hcn] at h0
    generalize cleanE e now = c at *
    refine AW.loopK [(1, _), (2, _), (5, _), (8, _), (10, _), (11, _), (43, _)] (fun nn E H => ∃ (k : Nat), (k ≤ c.inn.length) ∧ (∀ q, q < k → hB p id (hd c.inn q) = false) ∧ nn = c.inn.length - k ∧ E = [(44, .val (.int .i64 (k : Int)))] ∧ H = [.row V35 126 10 c.inn.length (hdsA c.inn), .row V25 122 3 c.used.length (ussA c.used), .row V15 78 9 c.out.length (wtsA c.out), .blk B4 41 6 [.val (.int .i64 0), .val (.int .i64 0), .val (.int .i64 0), .val nilS, .val nilS, .val nilS], .blk B3 56 4 [.val (.int .i64 0), .val nilS, .val nilS, .val nilS], .blk B2 41 6 [.val (.int .i64 2), .val (.int .i64 m.code), .val (.int .i64 id), roB m.tok, roO m.opts, roB m.pay], .blk B1 56 4 [.val (.int .i64 c.next), .val V15, .val V25, .val V35]]) _ (⟨0, by omega, fun q hq => absurd hq (by omega), rfl, rfl, rfl⟩) (by repeat (first | exact envNil | refine envCons rfl ?_)) (by repeat (first | exact envNil | refine envCons rfl ?_)) (by repeat (first | exact subPnil | refine subPcons 0 rfl ?_)) ?_
    rintro nn E H ⟨k, hk1, hn, rfl, rfl, rfl⟩
    dsimp only [List.cons_append, List.nil_append]
    refine AW.seq ?_
    refine AW.region ?_
    refine AO.op (O.lss rfl rfl rfl (by rfl)) rfl rfl rfl ?_
    refine AO.nil ?_
    refine AQ.thenN ?_
    refine AW.seq ?_
    refine AW.split rfl (fun hlt => ?_) (fun hlt => ?_) <;> (try simp only [decide_eq_true_eq, decide_eq_false_iff_not, beq_iff_eq, beq_eq_false_iff_ne, bne_iff_ne, bne_eq_false_iff_eq, Bool.not_eq_true', Bool.not_eq_false', Bool.not_eq_true, Bool.not_eq_false, ne_eq, Int.not_lt, Int.not_le, Bool.and_eq_true, Bool.or_eq_true, Bool.or_eq_false_iff, Bool.and_eq_false_imp, strOf_toList, Decidable.not_not] at hlt)
    · skip
      have hk : k < c.inn.length := by omega
      refine AW.g ?_
      refine G.openRow 0 rfl (by omega) (fun b cap hc1 hc2 hxs hVe => ?_)
      refine AW.u ?_
      subst hVe
      dsimp only [List.set]
      refine AW.skip ?_
      refine AQ.thenN ?_
      refine AW.seq ?_
      refine AW.block ?_
      refine AW.seq ?_
      refine AW.region ?_
      refine AO.op (O.move rfl rfl) rfl rfl rfl ?_
      refine AO.op (O.assign rfl rfl) rfl rfl rfl ?_
      refine AO.nil ?_
      refine AQ.thenN ?_
      refine AW.seq ?_
      refine AW.region ?_
      refine AO.op (O.fieldAddr rfl rfl) rfl rfl rfl ?_
      refine AO.op (O.load rfl rfl (by repeat (first | exact List.Mem.head _ | refine List.Mem.tail _ ?_)) (by rfl)) rfl rfl rfl ?_
      refine AO.op (O.move rfl rfl) rfl rfl rfl ?_
      refine AO.op (O.idxV rfl rfl rfl ⟨(by omega), (by omega)⟩) rfl rfl rfl ?_
      refine AO.op (O.assign rfl rfl) rfl rfl rfl ?_
      refine AO.nil ?_
      refine AQ.thenN ?_
      refine AW.seq ?_
      refine AW.seq ?_
      refine AW.region ?_
      refine AO.op (O.move rfl rfl) rfl rfl rfl ?_
      refine AO.op (O.nilCheck rfl rfl) rfl rfl rfl ?_
      refine AO.op (O.fieldAddr rfl rfl) rfl rfl rfl ?_
      refine AO.op (O.load rfl rfl (by repeat (exact List.Mem.head _)) (by exact cellHi hk 0 (by omega) (by omega) rfl)) rfl rfl rfl ?_
      refine AO.op (O.move rfl rfl) rfl rfl rfl ?_
      refine AO.op (O.neq rfl rfl rfl (by rfl)) rfl rfl rfl ?_
      refine AO.op (O.move rfl rfl) rfl rfl rfl ?_
      refine AO.opG rfl rfl rfl (fun hp => O.move rfl rfl) ?_
      refine AO.opG rfl rfl rfl (fun hp => OpW.force 58 rfl (by exact hp) (O.nilCheck rfl rfl)) ?_
      refine AO.opG rfl rfl rfl (fun hp => OpW.force 59 rfl (by exact hp) (O.fieldAddr rfl rfl)) ?_
      refine AO.opG rfl rfl rfl (fun hp => OpW.force 60 rfl (by exact hp) (O.load rfl rfl (by repeat (exact List.Mem.head _)) (by exact cellHi hk 1 (by omega) (by omega) rfl))) ?_
      refine AO.opG rfl rfl rfl (fun hp => O.move rfl rfl) ?_
      refine AO.opG rfl rfl rfl (fun hp => OpW.force 61 rfl (by exact hp) (OpW.force 62 rfl (by exact hp) (O.neq rfl rfl rfl (by rfl)))) ?_
      refine AO.op (O.pickOr rfl rfl rfl rfl (fun h => by exact congrArg (fun b => !b) h)) rfl rfl rfl ?_
      refine AO.nil ?_
      refine AQ.thenN ?_
      refine AW.split rfl (fun h64 => ?_) (fun h64 => ?_) <;> (try simp only [decide_eq_true_eq, decide_eq_false_iff_not, beq_iff_eq, beq_eq_false_iff_ne, bne_iff_ne, bne_eq_false_iff_eq, Bool.not_eq_true', Bool.not_eq_false', Bool.not_eq_true, Bool.not_eq_false, ne_eq, Int.not_lt, Int.not_le, Bool.and_eq_true, Bool.or_eq_true, Bool.or_eq_false_iff, Bool.and_eq_false_imp, strOf_toList, Decidable.not_not] at h64)
      · skip
        refine AW.exit ?_
        refine AQ.thenX ?_
        refine AQ.blockX rfl ?_
        refine AQ.thenN ?_
        refine AW.region ?_
        refine AO.op (O.add rfl rfl rfl (by exact wI64 (by omega))) rfl rfl rfl ?_
        refine AO.op (O.move rfl rfl) rfl rfl rfl ?_
        refine AO.nil ?_
        refine AQ.g ?_
        refine G.closeRow (b := b) (sz := 10) (n := c.inn.length) (cap := cap) 0 rfl hxs rfl hc1 hc2 ?_
        refine AQ.u ?_
        dsimp only [List.set]
        refine AQ.loopKN _ _ _ (by omega) (⟨k + 1, by omega, fun q hq => (Nat.lt_or_ge q k).elim (hn q) (fun h => by rw [show q = k by omega, hB, Bool.eq_false_iff, ne_eq, Bool.and_eq_true, beq_iff_eq, beq_iff_eq]; exact fun ⟨a, b⟩ => h64.elim (fun f => f a) (fun f => f b)), rfl, rfl, rfl⟩) (by repeat (first | exact envNil | refine envCons rfl ?_)) (by repeat (first | exact envNil | refine envCons rfl ?_)) (by repeat (first | exact subPnil | refine subPcons 0 rfl ?_))
      · skip
        have e0 := fi_some (hB p id) Hd.none hk (by rw [hB, Bool.and_eq_true, beq_iff_eq, beq_iff_eq]; exact h64) hn
        rw [e0] at h0
        refine AW.skip ?_
        refine AQ.thenN ?_
        refine AW.seq ?_
        refine AW.seq ?_
        refine AW.region ?_
        refine AO.op (O.move rfl rfl) rfl rfl rfl ?_
        refine AO.op (O.nilCheck rfl rfl) rfl rfl rfl ?_
        refine AO.op (O.fieldAddr rfl rfl) rfl rfl rfl ?_
        refine AO.op (O.load rfl rfl (by repeat (exact List.Mem.head _)) (by exact cellHi hk 3 (by omega) (by omega) rfl)) rfl rfl rfl ?_
        refine AO.nil ?_
        refine AQ.thenN ?_
        refine AW.split rfl (fun h68 => ?_) (fun h68 => ?_) <;> (try simp only [decide_eq_true_eq, decide_eq_false_iff_not, beq_iff_eq, beq_eq_false_iff_ne, bne_iff_ne, bne_eq_false_iff_eq, Bool.not_eq_true', Bool.not_eq_false', Bool.not_eq_true, Bool.not_eq_false, ne_eq, Int.not_lt, Int.not_le, Bool.and_eq_true, Bool.or_eq_true, Bool.or_eq_false_iff, Bool.and_eq_false_imp, strOf_toList, Decidable.not_not] at h68)
        · skip
          have e1 : answerR e p id m now = (Ep.none, Msg.none, 15) := h0.trans (if_pos h68)
          refine AW.seq ?_
          refine AW.region ?_
          refine AO.op (O.build rfl rfl rfl (by rfl)) rfl rfl rfl ?_
          refine AO.op (O.build rfl rfl rfl (by rfl)) rfl rfl rfl ?_
          (refine AO.store (i := 4) rfl rfl rfl rfl rfl rfl (by rfl) (by rfl) (by rfl) (by (dsimp only [List.set, List.cons_append, List.nil_append, List.take, List.drop]; done)) (by (dsimp only [List.set, List.cons_append, List.nil_append, List.take, List.drop]; done)) ?_)
          (refine AO.store (i := 3) rfl rfl rfl rfl rfl rfl (by rfl) (by rfl) (by rfl) (by (dsimp only [List.set, List.cons_append, List.nil_append, List.take, List.drop]; done)) (by (dsimp only [List.set, List.cons_append, List.nil_append, List.take, List.drop]; done)) ?_)
          refine AO.op (O.assign rfl rfl) rfl rfl rfl ?_
          refine AO.nil ?_
          refine AQ.thenN ?_
          refine AW.ret ?_
          refine AQ.thenR ?_
          refine AQ.blockR ?_
          refine AQ.thenR ?_
          refine AQ.loopR ?_
          refine AQ.blockR ?_
          refine AQ.thenR ?_
          refine FnQ.coe (AQ.ret3G rfl (by exact ResAt.cell rfl (by repeat (first | exact List.Mem.head _ | refine List.Mem.tail _ ?_)) (by (dsimp only [List.set, List.cons_append, List.nil_append, List.take, List.drop]; done)) (by rfl)) (by exact ResAt.cell rfl (by repeat (first | exact List.Mem.head _ | refine List.Mem.tail _ ?_)) (by (dsimp only [List.set, List.cons_append, List.nil_append, List.take, List.drop]; done)) (by rfl)) (by exact ResAt.tmp rfl) ⟨_, List.nil_sublist _, .nil⟩ ⟨rfl, rfl⟩) (Coe.tup (by (repeat (first | exact CoeL.nil | refine CoeL.cons Coe.rfl ?_ | refine CoeL.cons Coe.nil ?_ | refine CoeL.cons (Coe.agg ?_) ?_)); done)) (ret3S e1 rfl)
        · skip
          have e1 : answerR e p id m now = (⟨c.next, c.out, c.used, c.inn.set k { hd c.inn k with ans := true, m := ackM m id }⟩, ackM m id, 0) := h0.trans (if_neg (by rw [h68]; simp))
          refine AW.skip ?_
          refine AQ.thenN ?_
          refine AW.seq ?_
          refine AW.region ?_
          refine AO.op (O.move rfl rfl) rfl rfl rfl ?_
          refine AO.op (O.move rfl rfl) rfl rfl rfl ?_
          (refine AO.op (O.loadK rfl rfl (by repeat (first | exact List.Mem.head _ | refine List.Mem.tail _ ?_)) (by (dsimp only [List.set, List.cons_append, List.nil_append, List.take, List.drop]; done)) (by rfl)) rfl rfl rfl ?_)
          refine AO.op (O.call rfl Tryz.func56 rfl rfl rfl (message_fn (ackM m id) hmm)) rfl rfl rfl ?_
          refine AO.op (O.nilCheck rfl rfl) rfl rfl rfl ?_
          refine AO.op (O.fieldAddr rfl rfl) rfl rfl rfl ?_
          (refine AO.store (i := 0) rfl rfl rfl rfl rfl rfl (by rfl) (by rfl) (by exact Nat.ble_eq_true_of_le (by simp only [hdsA_len, List.length_set]; omega)) (by exact splice_ans hk (by omega)) (by (dsimp only [List.set, List.cons_append, List.nil_append, List.take, List.drop]; done)) ?_)
          refine AO.op (O.nilCheck rfl rfl) rfl rfl rfl ?_
          refine AO.op (O.fieldAddr rfl rfl) rfl rfl rfl ?_
          (refine AO.store (i := 0) rfl rfl rfl rfl rfl rfl (by rfl) (by rfl) (by exact Nat.ble_eq_true_of_le (by simp only [hdsA_len, List.length_set]; omega)) (by exact splice_msg hk (ackM m id) (by omega)) (by (dsimp only [List.set, List.cons_append, List.nil_append, List.take, List.drop]; done)) ?_)
          refine AO.nil ?_
          refine AQ.thenN ?_
          refine AW.seq ?_
          refine AW.regionD 3 (by kernel_rfl) (by kernel_rfl) ?_
          simp only [List.take_succ_cons, List.take_zero, List.drop_succ_cons, List.drop_zero]
          (refine FA.op (O.loadK rfl rfl (by repeat (first | exact List.Mem.head _ | refine List.Mem.tail _ ?_)) (by (dsimp only [List.set, List.cons_append, List.nil_append, List.take, List.drop]; done)) (by rfl)) rfl rfl rfl rfl ?_)
          (refine FA.op (O.loadK rfl rfl (by repeat (first | exact List.Mem.head _ | refine List.Mem.tail _ ?_)) (by (dsimp only [List.set, List.cons_append, List.nil_append, List.take, List.drop]; done)) (by rfl)) rfl rfl rfl rfl ?_)
          refine FA.op (O.call rfl Tryz.func56 rfl rfl rfl (message_fn (ackM m id) hmm)) rfl rfl rfl rfl ?_
          refine FA.nil ?_
          simp only [chosen, List.nil_append, List.cons_append, List.append_nil]
          (refine AO.store (i := 4) rfl rfl rfl rfl rfl rfl (by (simp [AV.cells, AV.one, roB, roI, roO, show ∀ k z, (Value.int k z).oneCell' = true from fun _ _ => rfl, show ∀ k, (Value.bool k).oneCell' = true from fun _ => rfl, *]; done)) (by rfl) (by rfl) (by rfl) (by (dsimp only [List.set, List.cons_append, List.nil_append, List.take, List.drop]; done)) ?_)
          (refine AO.store (i := 3) rfl rfl rfl rfl rfl rfl (by rfl) (by rfl) (by rfl) (by rfl) (by (dsimp only [List.set, List.cons_append, List.nil_append, List.take, List.drop]; done)) ?_)
          refine AO.op (O.assign rfl rfl) rfl rfl rfl ?_
          refine AO.nil ?_
          refine AQ.thenN ?_
          refine AW.ret ?_
          refine AQ.blockR ?_
          refine AQ.thenR ?_
          refine AQ.loopR ?_
          refine AQ.blockR ?_
          refine AQ.thenR ?_
          refine AQ.g ?_
          refine G.closeRow (b := b) (sz := 10) (n := c.inn.length) (cap := cap) 0 rfl (by rw [hdsA_len, List.length_set]) rfl hc1 hc2 ?_
          refine AQ.u ?_
          dsimp only [List.set]
          refine AQ.g ?_
          refine G.freezeCell 0 3 3 rfl rfl rfl ?_
          refine AQ.u ?_
          dsimp only [List.eraseIdx, List.set]
          refine AQ.g ?_
          refine G.freezeCell 0 2 2 rfl rfl rfl ?_
          refine AQ.u ?_
          dsimp only [List.eraseIdx, List.set]
          refine AQ.g ?_
          refine G.freezeCell 0 1 1 rfl rfl rfl ?_
          refine AQ.u ?_
          dsimp only [List.eraseIdx, List.set]
          refine FnQ.coe (AQ.ret3G rfl (by exact ResAt.cell rfl (by repeat (first | exact List.Mem.head _ | refine List.Mem.tail _ ?_)) (by (dsimp only [List.set, List.cons_append, List.nil_append, List.take, List.drop]; done)) (by rfl)) (by exact ResAt.cell rfl (by repeat (exact List.Mem.head _)) (by (dsimp only [List.set, List.cons_append, List.nil_append, List.take, List.drop]; done)) (by rfl)) (by exact ResAt.tmp rfl) ⟨_, List.nil_sublist _, .nil⟩ ⟨rfl, rfl⟩) (Coe.tup (by (repeat (first | exact CoeL.nil | refine CoeL.cons Coe.rfl ?_)); done)) (ret3S e1 (aggE_tup (aggE_of (e := ⟨_, _, _, _⟩) rfl rfl rfl rfl List.length_set.symm rfl) _))
    · skip
      obtain rfl : k = c.inn.length := by omega
      rw [fi_none (hB p id) Hd.none hn] at h0
      refine AW.exit ?_
      refine AQ.thenX ?_
      refine AQ.loopX ?_
      refine AQ.blockX rfl ?_
      refine AQ.thenN ?_
      refine AW.seq ?_
      refine AW.region ?_
      refine AO.op (O.build rfl rfl rfl (by rfl)) rfl rfl rfl ?_
      refine AO.op (O.build rfl rfl rfl (by rfl)) rfl rfl rfl ?_
      (refine AO.store (i := 4) rfl rfl rfl rfl rfl rfl (by rfl) (by rfl) (by rfl) (by (dsimp only [List.set, List.cons_append, List.nil_append, List.take, List.drop]; done)) (by (dsimp only [List.set, List.cons_append, List.nil_append, List.take, List.drop]; done)) ?_)
      (refine AO.store (i := 3) rfl rfl rfl rfl rfl rfl (by rfl) (by rfl) (by rfl) (by (dsimp only [List.set, List.cons_append, List.nil_append, List.take, List.drop]; done)) (by (dsimp only [List.set, List.cons_append, List.nil_append, List.take, List.drop]; done)) ?_)
      refine AO.op (O.assign rfl rfl) rfl rfl rfl ?_
      refine AO.nil ?_
      refine AQ.thenN ?_
      refine AW.ret ?_
      refine FnQ.coe (AQ.ret3G rfl (by exact ResAt.cell rfl (by repeat (first | exact List.Mem.head _ | refine List.Mem.tail _ ?_)) (by (dsimp only [List.set, List.cons_append, List.nil_append, List.take, List.drop]; done)) (by rfl)) (by exact ResAt.cell rfl (by repeat (first | exact List.Mem.head _ | refine List.Mem.tail _ ?_)) (by (dsimp only [List.set, List.cons_append, List.nil_append, List.take, List.drop]; done)) (by rfl)) (by exact ResAt.tmp rfl) ⟨_, List.nil_sublist _, .nil⟩ ⟨rfl, rfl⟩) (Coe.tup (by (repeat (first | exact CoeL.nil | refine CoeL.cons Coe.rfl ?_ | refine CoeL.cons Coe.nil ?_ | refine CoeL.cons (Coe.agg ?_) ?_)); done)) (ret3S h0 rfl)
end Go.Proofs.YtoonnnifelnaiaaGreatDoor.By

namespace Go.Proofs.YtoonnnifelnaiaaGreatDoor.By
open Go.RowKit L A
set_option linter.unusedVariables false
set_option maxRecDepth 20000
set_option linter.unusedSimpArgs false
attribute [local irreducible] AW AQ AO
structure TinyE (e : Ep) : Prop where
  o : e.out.length ≤ 100
  u : e.used.length ≤ 100
  i : e.inn.length ≤ 100
  om : ∀ w ∈ e.out, SmM w.m
  im : ∀ h ∈ e.inn, SmM h.m
theorem TinyE.sm {e : Ep} (h : TinyE e) : SmE e := ⟨Nat.le_trans h.o (by omega), Nat.le_trans h.u (by omega), Nat.le_trans h.i (by omega), h.om, h.im⟩
theorem SmM.bd {m : Msg} (h : SmM m) : BdM m := ⟨h.1, Nat.le_trans h.2.2.1 (by omega), h.2.1⟩
theorem SmE.bd {e : Ep} (h : SmE e) : BdE e := ⟨Nat.le_trans h.o (by omega), Nat.le_trans h.u (by omega), Nat.le_trans h.i (by omega), fun x hx => (h.im x hx).bd⟩
theorem SmM.op {m : Msg} (h : SmM m) : m.opts.length ≤ 140737488355328 := Nat.le_trans h.2.2.1 (by omega)
/-! ### The example -/
def x1 : Ep × Msg × Int := sendR ⟨5, [], [], []⟩ 1 ⟨0, 1, 0, [], [], []⟩ 0
def x2 : Ep × List Wt × List Wt × Int := tickR ⟨6, [⟨1, ⟨0, 1, 5, [], [], []⟩, 2, 1⟩], [⟨1, 5, 128⟩], []⟩ 2
def x3 : Ep × Int × Msg × Int := recvR ⟨6, [⟨1, ⟨0, 1, 5, [], [], []⟩, 6, 2⟩], [⟨1, 5, 128⟩], []⟩ 1 ⟨0, 0, 7, [], [], []⟩ 3
end Go.Proofs.YtoonnnifelnaiaaGreatDoor.By

namespace Go.Proofs.YtoonnnifelnaiaaGreatDoor.By
open Go.RowKit L A Dk
set_option linter.unusedVariables false
set_option maxRecDepth 20000
set_option linter.unusedSimpArgs false
attribute [local irreducible] AW AQ AO

/-- Something, and a deck of which more or fewer numbers are taken. -/
def Gen (b : Nat) (l : List Int) (Φ : AV → Prop) : AV → List HE → Prop := fun r H' => Φ r ∧ ∃ k, k ≤ l.length ∧ H' = [deck b l k]
def IsNum (n : Int) (r : AV) : Prop := ∃ z : Int, 0 ≤ z ∧ z < n ∧ r = .val (.int .i64 z)
def IsBytes (n : Nat) (r : AV) : Prop := ∃ x : List UInt8, x.length ≤ n ∧ r = roB x
def Some1 (Φ : AV → Prop) : AV → List HE → Prop := fun r H' => Φ r ∧ H' = []
end Go.Proofs.YtoonnnifelnaiaaGreatDoor.By

namespace Go.Proofs.YtoonnnifelnaiaaGreatDoor.A
open Go.ChangeShapes Go.WideShapes Go.ChangeAt Go.RowKit Go.Deep L
set_option linter.unusedVariables false
set_option maxRecDepth 20000
set_option linter.unusedSimpArgs false

theorem own : ownKnob Tryz.prog.godebug = none := by kernel_rfl
theorem kids : Kids Tryz.prog (· < Tryz.prog.types.size) := kids_rows (by kernel_rfl) (by kernel_rfl)
theorem full : ∀ t e, t < Tryz.prog.types.size → Tryz.prog.underlying t = some (.slice e) → 0 < Tryz.prog.cellsOf e := slices_full_of Tryz.prog (by kernel_rfl)

theorem sameAt_ext {W W' : World} (h : Ext W W') (p : MemPlace) (hp : p.block < W.heap.size) : W.sameAt W' p := by
  have hb : W'.heap[p.block]? = W.heap[p.block]? := h.block _ hp (fun hh => hh)
  cases p with
  | cell b off => exact World.cell?_of_block (w := W) (a := ⟨b, off, none⟩) hb
  | map b => exact hb

section
variable {H : Type} {enc : TypeId × Value → H}
theorem trodAll_carry {P : Program} {W W' : World} {base : Nat} {spare : Nat → Bool} {held : Bool} : ∀ {ts : List TypeId} {vs : List Value} {ds : List (DataW H)} {ps : List MemPlace},
    DataW.TrodAll enc P W base spare held ts vs ds ps → (∀ p ∈ ps, W.sameAt W' p) → DataW.TrodAll enc P W' base spare held ts vs ds ps
  | [], [], [], _, h, _ => h
  | _ :: _, _ :: _, _ :: _, _, ⟨p, q, ⟨n, h1⟩, h2, e⟩, hs => ⟨p, q, ⟨n, DataW.trod_carry n _ _ _ h1 (fun x hx => hs x (by rw [e]; exact List.mem_append_left _ hx))⟩, trodAll_carry h2 (fun x hx => hs x (by rw [e]; exact List.mem_append_right _ hx)), e⟩

/-- A law: it returned true, and nothing that was there has turned. -/
theorem lawPost {fn : Func} {s : ChangeSpec} {W W' : World} {args : Array Value} {ds gs : List (DataW H)} {before : List MemPlace} {bt : TypeId}
    (hW : DataW.Whole enc Tryz.prog fn.params.toList s.vars false W args.toList ds gs before) (hv : s.vars = []) (hfn : s.fn H (ds ++ gs) = { results := [.lit (.bool true)], args := ds }) (hres : fn.resultTypes = #[bt]) (hbt : Tryz.prog.underlying bt = some .bool)
    (hpar : ∀ t ∈ fn.params.toList, t < Tryz.prog.types.size) (hE : Ext W W') : s.post enc Tryz.prog fn false true false false W args (.bool true) W' := by
  have hold : ∀ p ∈ before, (fun b => decide (b < W.heap.size)) p.block = true := fun p hp => by simpa using hW.lt p hp
  have hlt := hW.lt
  have hW' := hW
  obtain ⟨pa, pv, hA, hV, rfl, hz, hn⟩ := hW
  rw [hv] at hV
  obtain ⟨rfl, rfl⟩ := trodVars_none hV
  have hA' : DataW.TrodAll enc Tryz.prog W' 0 (fun _ => true) true fn.params.toList args.toList ds pa := trodAll_carry hA fun p hp => sameAt_ext hE p (hlt p (List.mem_append_left _ hp))
  have hargs : ∀ sp : Nat → Bool, (∀ p ∈ pa ++ [], sp p.block = true) → DataW.TrodAll enc Tryz.prog W' 0 sp true fn.params.toList args.toList ds pa := fun sp hsp =>
    DataW.TrodAll.respare kids full hpar hA' fun p hp => hsp p (by simpa using hp)
  have hres' : ∀ (b : Nat) (sp : Nat → Bool) (hd : Bool), DataW.TrodAll enc Tryz.prog W' b sp hd fn.resultTypes.toList ((Value.bool true).resultList fn.resultTypes.size) [.lit (.bool true)] [] := fun b sp hd => by
    rw [hres]; exact trodAll_cons_mk (shut_bool hbt true) trodAll_mk0
  refine ⟨ds, [], pa ++ [], [], pa, [], hW', by rw [hfn]; exact hres' _ _ _, by rw [hfn]; exact hargs _ hold, by rw [hfn, hv]; rfl, World.keptBut_mono (fun p hp => ⟨hp, ?_⟩) ((hE.toBelow).frame (· ∈ pa ++ [])), fun h => by cases h⟩
  exact Or.inr (by simpa using hp)

/-! ### How arguments read -/

def Old (W : World) : Nat → Prop := fun b => b < W.heap.size

variable {P : Program} {W : World}
/-- A reading of cells of a type as these. -/
theorem rd_int {base : Nat} {spare : Nat → Bool} {held : Bool} {t : TypeId} {k : IntKind} (ht : P.underlying t = some (.int k)) {n : Nat} {cs : List Value} {x : DataW H × List MemPlace} (h : DataW.trod enc P W base spare held n t cs = some x) :
    ∃ z : Int, (Lit.int k z).wf = true ∧ RelL (Old W) W [.val (.int k z)] cs := by
  cases n with
  | zero => simp [DataW.trod] at h
  | succ n =>
    obtain ⟨z, rfl, _, hw⟩ := DataW.trod_int ht h
    exact ⟨z, hw, RelL.cons (.val _) RelL.nil⟩

theorem rd_slice {α : Type} {enc' : α → List AV} {good : α → Prop} {base : Nat} {spare : Nat → Bool} {held : Bool} {t e : TypeId} (ht : P.underlying t = some (.slice e)) (hsz : ∀ a, (enc' a).length = P.cellsOf e) (hpos : 0 < P.cellsOf e)
    (he : ∀ (n : Nat) (cs : List Value) (x : DataW H × List MemPlace), cs.length = P.cellsOf e → DataW.trod enc P W base spare held n e cs = some x → ∃ a, good a ∧ RelL (Old W) W (enc' a) cs)
    {n : Nat} {cs : List Value} {x : DataW H × List MemPlace} (h : DataW.trod enc P W base spare held n t cs = some x) :
    ∃ l : List α, (∀ a ∈ l, good a) ∧ l.length ≤ maxLen ∧ RelL (Old W) W [.ro false l.length (l.flatMap enc')] cs := by
  rcases open_slice ht h with ⟨rfl, -⟩ | ⟨ad, len, cap, m, n', D, Pl, rfl, hb, hl, hm, hmm, hx, hi⟩
  · exact ⟨[], fun _ h => (by cases h), Nat.zero_le _, RelL.cons (.emp _ _ _ (fun h => by cases h) (Nat.zero_le _)) RelL.nil⟩
  · have hlm : len ≤ m := by rw [hmm]; split <;> omega
    have hex : ∀ i : Nat, ∃ a : Option α, i < len → ∃ a', a = some a' ∧ good a' ∧ ∃ cs', W.cells? base (ad.add (i * P.cellsOf e)) (P.cellsOf e) = some cs' ∧ RelL (Old W) W (enc' a') cs' := fun i => by
      by_cases hil : i < len
      · obtain ⟨cs', hc, htr⟩ := hi i (by omega)
        obtain ⟨_, hcl, _⟩ := World.cells?_some hc
        obtain ⟨a, hg, hr⟩ := he _ _ _ hcl htr
        exact ⟨some a, fun _ => ⟨a, rfl, hg, cs', hc, hr⟩⟩
      · exact ⟨none, fun h => absurd h hil⟩
    obtain ⟨f, hf⟩ := Classical.axiomOfChoice hex
    by_cases hlen0 : len = 0
    · subst hlen0
      exact ⟨[], fun _ h => (by cases h), Nat.zero_le _, RelL.cons (.emp _ _ _ (fun h => by cases h) hm) RelL.nil⟩
    · obtain ⟨a0, _, _⟩ := hf 0 (by omega)
      let g : Nat → α := fun i => (f i).getD a0
      have hg : ∀ i, i < len → good (g i) ∧ ∃ cs', W.cells? base (ad.add (i * P.cellsOf e)) (P.cellsOf e) = some cs' ∧ RelL (Old W) W (enc' (g i)) cs' := fun i hi' => by
        obtain ⟨a', ha', h1, h2⟩ := hf i hi'
        have : g i = a' := by simp [g, ha']
        rw [this]; exact ⟨h1, h2⟩
      have hflat : ∀ (len : Nat), (((List.range len).map g).flatMap enc').length = len * P.cellsOf e := by
        intro len
        induction len with
        | zero => simp
        | succ k ih => rw [List.range_succ, List.map_append, List.flatMap_append, List.length_append, ih]; simp [hsz, Nat.add_mul]
      have hflatget : ∀ (len i j : Nat), i < len → j < P.cellsOf e → (((List.range len).map g).flatMap enc')[i * P.cellsOf e + j]? = (enc' (g i))[j]? := by
        intro len
        induction len with
        | zero => intro i j h; omega
        | succ k ih =>
          intro i j h hj
          rw [List.range_succ, List.map_append, List.flatMap_append, List.getElem?_append]
          by_cases hik : i < k
          · have h1 : (i + 1) * P.cellsOf e ≤ k * P.cellsOf e := Nat.mul_le_mul_right _ (by omega)
            rw [Nat.add_mul] at h1
            rw [if_pos (by rw [hflat]; omega)]
            exact ih i j hik hj
          · have : i = k := by omega
            subst this
            rw [if_neg (by rw [hflat]; omega), hflat]
            simp
      have hblk : ad.spot = none ∧ ad.block < W.heap.size := by
        obtain ⟨_, cs', hc, _⟩ := hg 0 (by omega)
        obtain ⟨_, hcl, hat⟩ := World.cells?_some hc
        have h0 := hat 0 hpos
        simp only [Nat.zero_mul] at h0
        have h1 : W.cell? ad ≠ none := by
          intro hn
          rw [show (ad.add 0).add 0 = ad by simp [Addr.add]] at h0
          rw [hn] at h0
          have := (List.getElem?_eq_none_iff.1 h0.symm)
          omega
        refine ⟨?_, ?_⟩
        · cases hsp : ad.spot with
          | none => rfl
          | some _ => exfalso; apply h1; unfold World.cell?; split <;> simp [hsp]
        · cases hc : W.cell? ad with
          | none => exact absurd hc h1
          | some u => exact World.block_lt_of_cell? W ad hc
      obtain ⟨b, off, sp⟩ := ad
      obtain ⟨rfl, hblt⟩ := hblk
      have hcell : ∀ i j, i < len → j < P.cellsOf e → ∃ u, W.cell? ⟨b, off + (i * P.cellsOf e + j), none⟩ = some u ∧ ∃ x, (enc' (g i))[j]? = some x ∧ RelV (Old W) W x u := fun i j hi' hj => by
        obtain ⟨_, cs', hc, hr⟩ := hg i hi'
        obtain ⟨_, hcl, hat⟩ := World.cells?_some hc
        have h0 := hat j hj
        rw [addr_add, addr_add] at h0
        have hjl : j < cs'.length := by omega
        have hjx : j < (enc' (g i)).length := by rw [hsz]; exact hj
        refine ⟨cs'[j], by rw [← Nat.add_assoc, h0]; simp [hjl], (enc' (g i))[j], by simp [hjx], ?_⟩
        have := hr.2 j hjx
        simpa [hjl] using this
      refine ⟨(List.range len).map g, fun a ha => ?_, by simp; omega, RelL.cons ?_ RelL.nil⟩
      · obtain ⟨i, hi', rfl⟩ := List.mem_map.1 ha
        exact (hg i (List.mem_range.1 hi')).1
      · rw [List.length_map, List.length_range]
        have hq : ∀ j, j < (((List.range len).map g).flatMap enc').length → ∃ u, W.cell? ⟨b, off + j, none⟩ = some u ∧ ∃ x, (((List.range len).map g).flatMap enc')[j]? = some x ∧ RelV (Old W) W x u := fun j hj => by
          rw [hflat] at hj
          have h1 : j / P.cellsOf e < len := (Nat.div_lt_iff_lt_mul hpos).2 hj
          have h2 := Nat.mod_lt j hpos
          have h3 : j / P.cellsOf e * P.cellsOf e + j % P.cellsOf e = j := by rw [Nat.mul_comm]; exact Nat.div_add_mod j _
          obtain ⟨u, hu, x, hx', hr⟩ := hcell (j / P.cellsOf e) (j % P.cellsOf e) h1 h2
          rw [h3] at hu
          refine ⟨u, hu, x, ?_, hr⟩
          have := hflatget len _ _ h1 h2
          rw [h3] at this
          rw [this, hx']
        refine .ro false len _ b off cap (fun j => (W.cell? ⟨b, off + j, none⟩).getD undef) hblt (fun j hj => ?_) (fun j hj => ?_) hl hm (fun h => by cases h)
        · obtain ⟨u, hu, _⟩ := hq j hj
          rw [hu]; rfl
        · obtain ⟨u, hu, x, hx', hr⟩ := hq j hj
          rw [hu]
          simp only [Option.getD_some]
          have : x = (((List.range len).map g).flatMap enc')[j] := by
            rw [List.getElem?_eq_getElem hj] at hx'; exact (Option.some.inj hx').symm
          rw [← this]; exact hr

theorem flatMap_one {α : Type} (f : α → AV) (l : List α) : l.flatMap (fun a => [f a]) = l.map f := by
  induction l with
  | nil => rfl
  | cons a l ih => simp [List.flatMap_cons, ih]

theorem rd_ints {base : Nat} {spare : Nat → Bool} {held : Bool} {t e : TypeId} {k : IntKind} (ht : P.underlying t = some (.slice e)) (he : P.underlying e = some (.int k)) (h1 : P.cellsOf e = 1) {n : Nat} {cs : List Value} {x : DataW H × List MemPlace} (h : DataW.trod enc P W base spare held n t cs = some x) :
    ∃ l : List Int, (∀ z ∈ l, (Lit.int k z).wf = true) ∧ l.length ≤ maxLen ∧ RelL (Old W) W [.ro false l.length (intsA k l)] cs := by
  obtain ⟨l, h2, h3, h4⟩ := rd_slice (enc' := fun z : Int => [.val (.int k z)]) (good := fun z => (Lit.int k z).wf = true) ht (fun _ => h1.symm) (by omega) (fun n cs x _ h => rd_int he h) h
  rw [flatMap_one] at h4
  exact ⟨l, h2, h3, h4⟩
theorem rd_bytes {base : Nat} {spare : Nat → Bool} {held : Bool} {t e : TypeId} (ht : P.underlying t = some (.slice e)) (he : P.underlying e = some (.int .u8)) (h1 : P.cellsOf e = 1) {n : Nat} {cs : List Value} {x : DataW H × List MemPlace} (h : DataW.trod enc P W base spare held n t cs = some x) :
    ∃ l : List UInt8, l.length ≤ maxLen ∧ RelL (Old W) W [roB l] cs := by
  obtain ⟨l, h2, h3, h4⟩ := rd_ints ht he h1 h
  have hb : ∃ m : List UInt8, l = m.map fun b => ((b.toNat : Nat) : Int) := by
    clear h h3 h4
    induction l with
    | nil => exact ⟨[], rfl⟩
    | cons z l ih =>
      obtain ⟨m, rfl⟩ := ih fun z hz => h2 z (List.mem_cons_of_mem _ hz)
      have hz := h2 z (List.mem_cons_self ..)
      have hz' : 0 ≤ z ∧ z ≤ 255 := by simpa [Lit.wf, IntKind.min, IntKind.max, IntKind.signed, IntKind.bits] using hz
      refine ⟨UInt8.ofNat z.toNat :: m, ?_⟩
      simp only [List.map_cons, List.cons.injEq, and_true]
      rw [UInt8.toNat_ofNat_of_lt' (by simp [UInt8.size]; omega)]
      omega
  obtain ⟨m, rfl⟩ := hb
  refine ⟨m, by simpa using h3, ?_⟩
  simpa [roB, bytesA, intsA, Function.comp_def] using h4

theorem relV_of_one {R : Nat → Prop} {a : AV} {v : Value} (hc : v.cells.toList = [v]) (h : RelL R W [a] v.cells.toList) : RelV R W a v := by
  rw [hc] at h
  obtain ⟨u, r, he, h1, _⟩ := h.uncons
  cases he
  exact h1
end
end Go.Proofs.YtoonnnifelnaiaaGreatDoor.A

namespace Go.Proofs.YtoonnnifelnaiaaGreatDoor.A
open Go.ChangeShapes Go.WideShapes Go.ChangeAt Go.RowKit L
set_option linter.unusedVariables false
set_option maxRecDepth 20000
set_option linter.unusedSimpArgs false
section
variable {P : Program}

/-- Arguments of this type read as one of these. -/
def Reads (P : Program) (t : TypeId) (φ : AV → Prop) : Prop :=
  ∀ (H : Type) (enc : TypeId × Value → H) (W : World) (base b0 : Nat) (spare : Nat → Bool) (held : Bool) (v : Value) (d : DataW H) (p : List MemPlace),
    Value.okWide P W .any b0 t v → DataW.Trod enc P W base spare held t v d p → ∃ x, φ x ∧ RelV (Old W) W x v
/-- Cells of this type read as one of these. -/
structure RdC (P : Program) (t : TypeId) {α : Type} (f : α → List AV) (good : α → Prop) : Prop where
  len : ∀ a, (f a).length = P.cellsOf t
  rd : ∀ (H : Type) (enc : TypeId × Value → H) (W : World) (base : Nat) (spare : Nat → Bool) (held : Bool) (n : Nat) (cs : List Value) (x : DataW H × List MemPlace),
    DataW.trod enc P W base spare held n t cs = some x → ∃ a, good a ∧ RelL (Old W) W (f a) cs

theorem okw_int {W : World} {r : Reach} {b : Nat} {t : TypeId} {k : IntKind} (ht : P.underlying t = some (.int k)) {v : Value} (h : Value.okWide P W r b t v) : v.cells.toList = [v] := by
  cases v <;> simp [Value.okWide, ht, Cell.okWide, Cell.ok] at h <;> rfl
theorem okw_slice {W : World} {r : Reach} {b : Nat} {t e : TypeId} (ht : P.underlying t = some (.slice e)) {v : Value} (h : Value.okWide P W r b t v) : v.cells.toList = [v] := by
  cases v <;> simp [Value.okWide, ht, Cell.okWide, Cell.ok] at h <;> rfl
theorem okw_bool {W : World} {r : Reach} {b : Nat} {t : TypeId} (ht : P.underlying t = some .bool) {v : Value} (h : Value.okWide P W r b t v) : v.cells.toList = [v] := by
  cases v <;> simp [Value.okWide, ht, Cell.okWide, Cell.ok] at h <;> rfl
theorem RelL.glue {R : Nat → Prop} {W : World} {xs ys : List AV} {cs : List Value} {o k : Nat} (h1 : RelL R W xs ((cs.drop o).take k)) (h2 : RelL R W ys (cs.drop (o + k))) : RelL R W (xs ++ ys) (cs.drop o) := by
  have := h1.app h2
  rwa [show (cs.drop o).take k ++ cs.drop (o + k) = cs.drop o by rw [← List.drop_drop, List.take_append_drop]] at this
theorem RdC.int {t : TypeId} {k : IntKind} (ht : P.underlying t = some (.int k)) (h1 : P.cellsOf t = 1) : RdC P t (fun z : Int => [.val (.int k z)]) (fun z => (Lit.int k z).wf = true) :=
  ⟨fun _ => h1.symm, fun H enc W base spare held n cs x h => rd_int ht h⟩
theorem RdC.bool {t : TypeId} (ht : P.underlying t = some .bool) (h1 : P.cellsOf t = 1) : RdC P t (fun z : Bool => [.val (.bool z)]) (fun _ => True) :=
  ⟨fun _ => h1.symm, fun H enc W base spare held n cs x h => by
    obtain ⟨b, rfl, _⟩ := DataW.trod_bool ht h
    exact ⟨b, trivial, RelL.cons (.val _) RelL.nil⟩⟩
theorem RdC.string {t : TypeId} (ht : P.underlying t = some .string) (h1 : P.cellsOf t = 1) : RdC P t (fun s : ByteArray => [.val (.string s)]) (fun s => s.size ≤ maxLen) :=
  ⟨fun _ => h1.symm, fun H enc W base spare held n cs x h => by
    obtain ⟨b, rfl, _, hs⟩ := DataW.trod_string ht h
    exact ⟨b, hs, RelL.cons (.val _) RelL.nil⟩⟩
theorem RdC.slice {t e : TypeId} {α : Type} {f : α → List AV} {good : α → Prop} (ht : P.underlying t = some (.slice e)) (h1 : P.cellsOf t = 1) (hpos : 0 < P.cellsOf e) (h : RdC P e f good) :
    RdC P t (fun l : List α => [.ro false l.length (l.flatMap f)]) (fun l => (∀ a ∈ l, good a) ∧ l.length ≤ maxLen) :=
  ⟨fun _ => h1.symm, fun H enc W base spare held n cs x hx => by
    obtain ⟨l, h2, h3, h4⟩ := rd_slice ht h.len hpos (fun n cs x _ hx => h.rd H enc W base spare held n cs x hx) hx
    exact ⟨l, ⟨h2, h3⟩, h4⟩⟩
theorem RdC.bytes {t e : TypeId} (ht : P.underlying t = some (.slice e)) (he : P.underlying e = some (.int .u8)) (h1 : P.cellsOf t = 1) (h2 : P.cellsOf e = 1) : RdC P t (fun l : List UInt8 => [roB l]) (fun l => l.length ≤ maxLen) :=
  ⟨fun _ => h1.symm, fun H enc W base spare held n cs x hx => rd_bytes ht he h2 hx⟩
theorem RdC.ints {t e : TypeId} {k : IntKind} (ht : P.underlying t = some (.slice e)) (he : P.underlying e = some (.int k)) (h1 : P.cellsOf t = 1) (h2 : P.cellsOf e = 1) :
    RdC P t (fun l : List Int => [.ro false l.length (intsA k l)]) (fun l => (∀ z ∈ l, (Lit.int k z).wf = true) ∧ l.length ≤ maxLen) :=
  ⟨fun _ => h1.symm, fun H enc W base spare held n cs x hx => by
    obtain ⟨l, h3, h4, h5⟩ := rd_ints ht he h2 hx
    exact ⟨l, ⟨h3, h4⟩, h5⟩⟩
/-- Fields, one after the other, from cell o on. -/
structure FR (P : Program) (fs : List Field) (o m : Nat) {α : Type} (f : α → List AV) (good : α → Prop) : Prop where
  len : ∀ a, (f a).length = m
  rd : ∀ (H : Type) (enc : TypeId × Value → H) (W : World) (base : Nat) (spare : Nat → Bool) (held : Bool) (cs : List Value), cs.length = o + m →
    (∀ fd ∈ fs, ∃ (n : Nat) (y : DataW H × List MemPlace), DataW.trod enc P W base spare held n fd.type ((cs.drop fd.offset).take (P.cellsOf fd.type)) = some y) → ∃ a, good a ∧ RelL (Old W) W (f a) (cs.drop o)
theorem FR.nil {o : Nat} : FR P [] o 0 (fun _ : Unit => []) (fun _ => True) :=
  ⟨fun _ => rfl, fun H enc W base spare held cs hl _ => ⟨(), trivial, by rw [List.drop_of_length_le (by omega)]; exact RelL.nil⟩⟩
theorem FR.cons {fd : Field} {fs : List Field} {o k m : Nat} {α β : Type} {f : α → List AV} {good : α → Prop} {g : β → List AV} {good' : β → Prop} (h : RdC P fd.type f good) (ho : fd.offset = o) (hk : P.cellsOf fd.type = k) (hs : FR P fs (o + k) m g good') :
    FR P (fd :: fs) o (k + m) (fun p : α × β => f p.1 ++ g p.2) (fun p => good p.1 ∧ good' p.2) :=
  ⟨fun p => by rw [List.length_append, h.len, hs.len, hk], fun H enc W base spare held cs hl hall => by
    obtain ⟨n, y, h1⟩ := hall fd (List.mem_cons_self ..)
    rw [ho, hk] at h1
    obtain ⟨a, h2, h3⟩ := h.rd H enc W base spare held _ _ _ h1
    obtain ⟨b, h4, h5⟩ := hs.rd H enc W base spare held cs (by omega) (fun fd hfd => hall fd (List.mem_cons_of_mem _ hfd))
    exact ⟨(a, b), ⟨h2, h4⟩, RelL.glue h3 h5⟩⟩
theorem RdC.struct {t : TypeId} {fs : List Field} {m : Nat} {α : Type} {f : α → List AV} {good : α → Prop} (ht : P.underlying t = some (.struct fs.toArray)) (hm : P.cellsOf t = m) (h : FR P fs 0 m f good) : RdC P t f good :=
  ⟨fun a => by rw [h.len, hm], fun H enc W base spare held n cs x hx => by
    obtain ⟨xs, n', _, _, hl, hlen, hf⟩ := DataW.trod_struct ht hx
    obtain ⟨a, h1, h2⟩ := h.rd H enc W base spare held cs (by omega) (fun fd hfd => by
      obtain ⟨i, hi, rfl⟩ := List.getElem_of_mem hfd
      have h0 := hf i fs[i] (by simp [hi])
      have hxi : i < xs.length := by rw [hlen]; simpa using hi
      rw [List.getElem?_eq_getElem hxi] at h0
      exact ⟨n', _, h0⟩)
    exact ⟨a, h1, by simpa using h2⟩⟩
theorem RdC.map {t : TypeId} {α β : Type} {f : α → List AV} {good : α → Prop} {g : β → List AV} {good' : β → Prop} (h : RdC P t f good) (φ : α → β) (hφ : ∀ a, good a → good' (φ a) ∧ f a = g (φ a)) (hl : ∀ b, (g b).length = P.cellsOf t) : RdC P t g good' :=
  ⟨hl, fun H enc W base spare held n cs x hx => by
    obtain ⟨a, h1, h2⟩ := h.rd H enc W base spare held n cs x hx
    exact ⟨φ a, (hφ a h1).1, (hφ a h1).2 ▸ h2⟩⟩
theorem RdC.reads {t : TypeId} {α : Type} {f : α → List AV} {good : α → Prop} (h : RdC P t f good) (g : α → AV) (hg : ∀ a, f a = [g a]) (hw : ∀ (W : World) (b : Nat) (v : Value), Value.okWide P W .any b t v → v.cells.toList = [v]) : Reads P t (fun x => ∃ a, good a ∧ x = g a) :=
  fun H enc W base b0 spare held v d p hv ⟨n, hx⟩ => by
    obtain ⟨a, h1, h2⟩ := h.rd H enc W base spare held n _ _ hx
    rw [hg] at h2
    exact ⟨g a, ⟨a, h1, rfl⟩, relV_of_one (hw _ _ _ hv) h2⟩
theorem Reads.int {t : TypeId} {k : IntKind} (ht : P.underlying t = some (.int k)) (h1 : P.cellsOf t = 1) : Reads P t (fun x => ∃ z : Int, (Lit.int k z).wf = true ∧ x = .val (.int k z)) := (RdC.int ht h1).reads (fun z => .val (.int k z)) (fun _ => rfl) (fun _ _ _ h => okw_int ht h)
theorem Reads.bool {t : TypeId} (ht : P.underlying t = some .bool) (h1 : P.cellsOf t = 1) : Reads P t (fun x => ∃ z : Bool, True ∧ x = .val (.bool z)) := (RdC.bool ht h1).reads (fun z => .val (.bool z)) (fun _ => rfl) (fun _ _ _ h => okw_bool ht h)
theorem Reads.bytes {t e : TypeId} (ht : P.underlying t = some (.slice e)) (he : P.underlying e = some (.int .u8)) (h1 : P.cellsOf t = 1) (h2 : P.cellsOf e = 1) : Reads P t (fun x => ∃ l : List UInt8, l.length ≤ maxLen ∧ x = roB l) := (RdC.bytes ht he h1 h2).reads roB (fun _ => rfl) (fun _ _ _ h => okw_slice ht h)
theorem Reads.ints {t e : TypeId} {k : IntKind} (ht : P.underlying t = some (.slice e)) (he : P.underlying e = some (.int k)) (h1 : P.cellsOf t = 1) (h2 : P.cellsOf e = 1) :
    Reads P t (fun x => ∃ l : List Int, ((∀ z ∈ l, (Lit.int k z).wf = true) ∧ l.length ≤ maxLen) ∧ x = .ro false l.length (intsA k l)) := (RdC.ints ht he h1 h2).reads (fun l => .ro false l.length (intsA k l)) (fun _ => rfl) (fun _ _ _ h => okw_slice ht h)
theorem Reads.slice {t e : TypeId} {α : Type} {f : α → List AV} {good : α → Prop} (ht : P.underlying t = some (.slice e)) (h1 : P.cellsOf t = 1) (hpos : 0 < P.cellsOf e) (h : RdC P e f good) :
    Reads P t (fun x => ∃ l : List α, ((∀ a ∈ l, good a) ∧ l.length ≤ maxLen) ∧ x = .ro false l.length (l.flatMap f)) := (RdC.slice ht h1 hpos h).reads (fun l => .ro false l.length (l.flatMap f)) (fun _ => rfl) (fun _ _ _ h => okw_slice ht h)

/-- All arguments. -/
def ReadsL (P : Program) : List TypeId → List (AV → Prop) → Prop
  | [], [] => True
  | t :: ts, φ :: φs => Reads P t φ ∧ ReadsL P ts φs
  | _, _ => False
theorem ReadsL.nil : ReadsL P [] [] := trivial
theorem ReadsL.cons {t : TypeId} {ts : List TypeId} {φ : AV → Prop} {φs : List (AV → Prop)} (h : Reads P t φ) (hs : ReadsL P ts φs) : ReadsL P (t :: ts) (φ :: φs) := ⟨h, hs⟩
def AllOf : List (AV → Prop) → (List AV → Prop) → Prop
  | [], K => K []
  | φ :: φs, K => ∀ x, φ x → AllOf φs (fun xs => K (x :: xs))

theorem readAll {H : Type} {enc : TypeId × Value → H} {W : World} {base b0 : Nat} {spare : Nat → Bool} {held : Bool} : ∀ {ts : List TypeId} {φs : List (AV → Prop)} {K : List AV → Prop} {vs : List Value} {ds : List (DataW H)} {ps : List MemPlace},
    ReadsL P ts φs → AllOf φs K → (∀ (j : Nat) t v, ts[j]? = some t → vs[j]? = some v → Value.okWide P W .any b0 t v) → DataW.TrodAll enc P W base spare held ts vs ds ps → ∃ xs, K xs ∧ RelL (Old W) W xs vs
  | [], [], K, vs, ds, ps, _, hK, _, hT => by
    obtain ⟨rfl, _, _⟩ := trodAll_nil hT
    exact ⟨[], hK, RelL.nil⟩
  | [], _ :: _, _, _, _, _, h, _, _, _ => h.elim
  | _ :: _, [], _, _, _, _, h, _, _, _ => h.elim
  | t :: ts, φ :: φs, K, vs, ds, ps, h, hK, hv, hT => by
    obtain ⟨v0, vs0, d0, ds0, p0, q0, rfl, rfl, rfl, h0, r0⟩ := trodAll_cons hT
    obtain ⟨x, h1, h2⟩ := h.1 H enc W base b0 spare held v0 d0 p0 (hv 0 t v0 rfl rfl) h0
    obtain ⟨xs, h3, h4⟩ := readAll h.2 (hK x h1) (fun j t v a b => hv (j + 1) t v a b) r0
    exact ⟨x :: xs, h3, RelL.cons h2 h4⟩
end

end Go.Proofs.YtoonnnifelnaiaaGreatDoor.A

namespace Go.Proofs.YtoonnnifelnaiaaGreatDoor.A
open Go.RowKit L
section
variable {Γ : Cx} {P : Program} {E : Env} {H : List HE} {N : Nat} {o : Oper}
/-- A guarded call that is made, to which one own block is given. -/
theorem AO.callMGw {Q : Exit → Act → World → Prop} {ops : Array Oper} {rest : List Oper} {f : FuncId} {d : Nat} {xs : List Operand} {ats : Array TypeId} {args : List AV} (i : Nat) {e : HE} {Post : AV → List HE → Prop} {fn : Func} (ho : o.op = .call { callee := .value (.func f), args := xs.toArray, argTypes := ats }) (hw : wantedIs ops E o = some true) (hfn : P.funcs[f]? = some fn) (hn : (fn.name == "runtime.NumGoroutine") = false) (hb : fn.body.isNone = false)
    (hx : evs E xs = some args) (hd : o.dst = some d) (hN : Nat.ble (d + 1) Γ.N = true) (hi : H[i]? = some e) (h : Sp P f args [e] Post) (next : ∀ r H', Post r H' → AO Γ P ops Q rest ((d, r) :: E) (H' ++ H.eraseIdx i)) : AO Γ P ops Q (o :: rest) E H := fun R a W hs ha => by
  have h1 := AO.callMG (o := { o with guard := none }) i ho rfl hfn hn hb hx hd hN hi h next R a W hs ha
  unfold wpList at h1 ⊢
  rw [if_pos (wanted_is ha hw)]
  rw [if_pos (by unfold Region.wanted; rfl)] at h1
  exact h1
end
end Go.Proofs.YtoonnnifelnaiaaGreatDoor.A

namespace Go.Proofs.YtoonnnifelnaiaaGreatDoor.By
open Go.RowKit L A Dk
set_option linter.unusedVariables false
set_option maxRecDepth 20000
set_option linter.unusedSimpArgs false
attribute [local irreducible] AW AQ AO
def bareM (t c i : Int) : Msg := ⟨t, c, i, [], [], []⟩
def ReqOk (m : Msg) : Prop := ∃ t c i : Int, 0 ≤ t ∧ t < 2 ∧ 0 ≤ c ∧ c ≤ 2 ∧ 0 ≤ i ∧ i ≤ 65535 ∧ m = bareM t c i
def IsReq (r : AV) : Prop := ∃ m, ReqOk m ∧ r = aggM m
def c3 : List Int := [1, 2, 0]
def c6 : List Int := [0, 1, 9, 10, 65534, 65535]
def IsBare (r : AV) : Prop := ∃ t c i : Int, r = aggM (bareM t c i)
end Go.Proofs.YtoonnnifelnaiaaGreatDoor.By

namespace Go.Proofs.YtoonnnifelnaiaaGreatDoor.By
open Go.RowKit L A
set_option linter.unusedVariables false
set_option maxRecDepth 20000
set_option linter.unusedSimpArgs false
theorem clean_val {e : Ep} (h : ValE e) (now : Int) : ValE (cleanE e now) := by
  obtain ⟨h1, h2, h3, h4, h5, h6, h7, h8, h9⟩ := h
  refine ⟨h1, h2, Nat.le_trans (clean_used e now) h3, Nat.le_trans (clean_inn e now) h4, h5, h6, fun u hu => h7 u (List.mem_filter.1 hu).1, fun x hx => h8 x (List.mem_filter.1 hx).1, ?_⟩
  exact h9.sublist (List.Sublist.map _ (List.filter_sublist))
theorem free_in (out : List Wt) (used : List Us) (p next : Int) : 0 ≤ freeI out used p next ∧ freeI out used p next ≤ 65535 := by
  unfold freeI; omega
theorem freeI_spec {out : List Wt} {used : List Us} {p next : Int} (h : used.length + out.length ≤ 48) : takenB out used p (freeI out used p next) = false := (freeK_spec h).2.1
theorem nodup_snoc_map {l : List Wt} {w : Wt} (h : (l.map kWt).Nodup) (hw : ∀ x ∈ l, kWt x ≠ kWt w) : ((l ++ [w]).map kWt).Nodup := by
  rw [List.map_append, List.map_singleton, nodup_snoc]
  refine ⟨h, fun hm => ?_⟩
  obtain ⟨x, hx, he⟩ := List.mem_map.1 hm
  exact hw x hx he
theorem sent_val {c : Ep} (h : ValE c) {p now : Int} {m : Msg} (hp : PeerOk p) (hn : TimeOk now) (hm : ValM m) (hf : ¬SendFull c m) : ValE (sentE c p m now (freeI c.out c.used p c.next)) := by
  obtain ⟨h1, h2, h3, h4, h5, h6, h7, h8, h9⟩ := h
  have hid := free_in c.out c.used p c.next
  have htk := freeI_spec (p := p) (next := c.next) (out := c.out) (used := c.used) (by omega)
  generalize freeI c.out c.used p c.next = id at *
  have hfu : c.used.length < 32 := by by_cases g : c.used.length < 32; exact g; exact absurd (.inl (by omega)) hf
  have hn2 : 0 ≤ (id + 1) % 65536 ∧ (id + 1) % 65536 ≤ 65535 := by omega
  have hus : ∀ u ∈ c.used ++ [(⟨p, id, now + 128⟩ : Us)], OkU u := by
    intro u hu
    rcases List.mem_append.1 hu with hu | hu
    · exact h7 u hu
    · obtain rfl := List.mem_singleton.1 hu
      exact ⟨hp, hid, by show 0 ≤ now + 128; have := hn.1; omega⟩
  have hul : (c.used ++ [(⟨p, id, now + 128⟩ : Us)]).length ≤ 32 := by rw [List.length_append, List.length_singleton]; omega
  by_cases hty : m.ty = 0
  · rw [sentE_con hty]
    have hfo : c.out.length < 16 := by by_cases g : c.out.length < 16; exact g; exact absurd (.inr ⟨hty, by omega⟩) hf
    refine ⟨hn2, by rw [List.length_append, List.length_singleton]; omega, hul, h4, ?_, ?_, hus, h8, h9⟩
    · intro w hw
      rcases List.mem_append.1 hw with hw | hw
      · exact h5 w hw
      · obtain rfl := List.mem_singleton.1 hw
        exact ⟨hp, hty, hm.withId hid, by show 0 ≤ now + 2; have := hn.1; omega, by show (1 : Int) ≤ 1; omega, by show (1 : Int) ≤ 5; omega⟩
    · refine nodup_snoc_map h6 fun x hx he => ?_
      have he1 : x.peer = p := congrArg Prod.fst he
      have he2 : x.m.id = id := congrArg Prod.snd he
      unfold takenB at htk
      rw [Bool.or_eq_false_iff, List.any_eq_false, List.any_eq_false] at htk
      have := htk.2 x hx
      simp [wB, he1, he2] at this
  · rw [sentE_non hty]
    exact ⟨hn2, h2, hul, h4, h5, h6, hus, h8, h9⟩
/-- What was given out and still lives is known to the endpoint. -/
def Knows (e : Ep) (now : Int) (g : List Us) : Prop := ∀ u ∈ g, now < u.till → u ∈ e.used
theorem Knows.later {e : Ep} {now now' : Int} {g : List Us} (h : Knows e now g) (hle : now ≤ now') : Knows e now' g := fun u hu hl => h u hu (by omega)
theorem Knows.clean {e e' : Ep} {now : Int} {g : List Us} (h : Knows e now g) (hu : e'.used = (cleanE e now).used) : Knows e' now g := by
  intro u hg hl
  rw [hu]
  exact List.mem_filter.2 ⟨h u hg hl, by simp [liveU]; omega⟩
theorem Knows.next {e : Ep} {now : Int} {g : List Us} (h : Knows e now g) (n : Int) : Knows { e with next := n } now g := h
theorem val_new {n : Int} (hn : IdOk n) : ValE ⟨n, [], [], []⟩ := ⟨hn, by simp, by simp, by simp, by simp, by simp, by simp, by simp, by simp⟩
end Go.Proofs.YtoonnnifelnaiaaGreatDoor.By

namespace Go.Proofs.YtoonnnifelnaiaaGreatDoor.By
open Go.RowKit L A
set_option linter.unusedVariables false
set_option maxRecDepth 20000
set_option linter.unusedSimpArgs false
/-- What is sent: the id tells the payload. -/
abbrev payM (t i : Int) : Msg := ⟨t, 2, i, [], [], [u8 (i + 1)]⟩
abbrev ansM (i : Int) : Msg := ⟨2, 68, i, [], [], [u8 (i + 1)]⟩
structure Pk where
  m : Msg
  at_ : Int
def Pk.none : Pk := ⟨Msg.none, 0⟩
abbrev cP (q : Pk) : List AV := [.val (.int .i64 q.m.ty), .val (.int .i64 q.m.code), .val (.int .i64 q.m.id), roB q.m.tok, roO q.m.opts, roB q.m.pay, .val (.int .i64 q.at_)]
def cellsP (q : Pk) : List AV := cP q
theorem cellsP_len (q : Pk) : (cellsP q).length = 7 := rfl
def pksA (l : List Pk) : List AV := l.flatMap cellsP
abbrev pk (l : List Pk) (k : Nat) : Pk := l.getD k Pk.none
@[simp] theorem pksA_len (l : List Pk) : (pksA l).length = l.length * 7 := flat_len cellsP_len l
theorem pksA_snoc (a : List Pk) (w : Pk) : pksA (a ++ [w]) = pksA a ++ cP w := flat_snoc a w
theorem getP {l : List Pk} {k : Nat} (h : k < l.length) {j : Nat} (hj : j = k) : ((pksA l).drop (0 + j * 7)).take 7 = cP (pk l k) := by rw [Nat.zero_add]; exact flat_at cellsP_len Pk.none h hj
theorem u8_val {i : Int} (hi : 0 ≤ i ∧ i < 255) : ((u8 i).toNat : Int) = i := by
  simp only [u8, UInt8.toNat_ofNat']
  omega
/-! ### The sender -/
structure SideA (a : Ep) (n : Nat) : Prop where
  v : ValE a
  nx : a.next = (n : Int)
  us : ∀ u ∈ a.used, u.id < (n : Int)
  ou : ∀ w ∈ a.out, w.m.id < (n : Int) ∧ w.m = payM 0 w.m.id
theorem free_next {out : List Wt} {used : List Us} {p : Int} {n : Nat} (hn : n ≤ 65535) (hu : ∀ u ∈ used, u.id < (n : Int)) (ho : ∀ w ∈ out, w.m.id < (n : Int)) : freeI out used p (n : Int) = (n : Int) := by
  have hk : freeK out used p (n : Int) = 0 := by
    unfold freeK
    rw [show List.range 64 = 0 :: (List.range 63).map (· + 1) by decide +kernel, List.find?_cons_of_pos]
    · rfl
    · have e : ((n : Int) + ((0 : Nat) : Int)) % 65536 = (n : Int) := by omega
      rw [e]
      unfold takenB
      rw [Bool.not_eq_true', Bool.or_eq_false_iff, List.any_eq_false, List.any_eq_false]
      constructor
      · intro u h; have := hu u h; simp [uB]; omega
      · intro w h; have := ho w h; simp [wB]; omega
  rw [freeI, hk]; omega
/-! ### The net -/
def NetOk (net : List Pk) (n : Nat) (now : Int) : Prop := ∀ q ∈ net, ∃ t i : Int, (t = 0 ∨ t = 1) ∧ 0 ≤ i ∧ i < (n : Int) ∧ q.m = payM t i ∧ 0 ≤ q.at_ ∧ q.at_ ≤ now
theorem NetOk.later {net : List Pk} {n n' : Nat} {now now' : Int} (h : NetOk net n now) (hn : n ≤ n') (hnow : now ≤ now') : NetOk net n' now' := fun q hq => by
  obtain ⟨t, i, h1, h2, h3, h4, h5, h6⟩ := h q hq
  exact ⟨t, i, h1, h2, by omega, h4, h5, by omega⟩
theorem NetOk.snoc {net : List Pk} {n : Nat} {now : Int} (h : NetOk net n now) {q : Pk} {t i : Int} (ht : t = 0 ∨ t = 1) (hi : 0 ≤ i ∧ i < (n : Int)) (hm : q.m = payM t i) (ha : 0 ≤ q.at_ ∧ q.at_ ≤ now) : NetOk (net ++ [q]) n now := fun x hx => by
  rcases List.mem_append.1 hx with hx | hx
  · exact h x hx
  · obtain rfl := List.mem_singleton.1 hx
    exact ⟨t, i, ht, hi.1, hi.2, hm, ha.1, ha.2⟩
/-! ### The receiver -/
def SideB (b : Ep) (D : List Int) : Prop := ∀ h ∈ b.inn, h.peer = 1 ∧ h.ans = true ∧ h.m = ansM h.id ∧ h.id ∈ D
/-- What was done and may still come is remembered. -/
def Kept (b : Ep) (D : List Int) (net : List Pk) (now : Int) : Prop := ∀ q ∈ net, q.m.id ∈ D → now < q.at_ + 128 → ∃ h ∈ b.inn, h.id = q.m.id ∧ q.at_ + 128 ≤ h.till
theorem Kept.later {b : Ep} {D : List Int} {net : List Pk} {now now' : Int} (h : Kept b D net now) (hn : now ≤ now') : Kept b D net now' := fun q hq hd hl => h q hq hd (by omega)
theorem Kept.snoc {b : Ep} {D : List Int} {net : List Pk} {now : Int} (h : Kept b D net now) {q : Pk} (hq : q.m.id ∈ D → now < q.at_ + 128 → ∃ x ∈ b.inn, x.id = q.m.id ∧ q.at_ + 128 ≤ x.till) : Kept b D (net ++ [q]) now := fun x hx hd hl => by
  rcases List.mem_append.1 hx with hx | hx
  · exact h x hx hd hl
  · obtain rfl := List.mem_singleton.1 hx
    exact hq hd hl
theorem Kept.clean {b : Ep} {D : List Int} {net : List Pk} {now : Int} (h : Kept b D net now) : Kept (cleanE b now) D net now := fun q hq hd hl => by
  obtain ⟨x, hx, h1, h2⟩ := h q hq hd hl
  exact ⟨x, List.mem_filter.2 ⟨hx, by simp [liveH]; omega⟩, h1, h2⟩
theorem SideB.clean {b : Ep} {D : List Int} (h : SideB b D) (now : Int) : SideB (cleanE b now) D := fun x hx => h x (List.mem_filter.1 hx).1
end Go.Proofs.YtoonnnifelnaiaaGreatDoor.By

namespace Go.Proofs.YtoonnnifelnaiaaGreatDoor.By
open Go.RowKit L A
set_option linter.unusedVariables false
set_option maxRecDepth 20000
set_option linter.unusedSimpArgs false
theorem clean_clean (b : Ep) (now : Int) : cleanE (cleanE b now) now = cleanE b now := by
  simp only [cleanE, List.filter_filter, Bool.and_self]
abbrev gotE (c : Ep) (h : Hd) : Ep := ⟨c.next, c.out, c.used, c.inn ++ [h]⟩
theorem clean_got {c : Ep} {now : Int} (hc : cleanE c now = c) {h : Hd} (hl : liveH now h = true) : cleanE (gotE c h) now = gotE c h := by
  have h1 : c.used.filter (liveU now) = c.used := congrArg Ep.used hc
  have h2 : c.inn.filter (liveH now) = c.inn := congrArg Ep.inn hc
  simp only [cleanE, gotE, h1, List.filter_append, h2, List.filter_cons_of_pos hl, List.filter_nil]
theorem got_val {c : Ep} (h : ValE c) {x : Hd} (hx : OkH x) (hl : c.inn.length < 16) (hn : ∀ y ∈ c.inn, kHd y ≠ kHd x) : ValE (gotE c x) := by
  obtain ⟨h1, h2, h3, h4, h5, h6, h7, h8, h9⟩ := h
  refine ⟨h1, h2, h3, by show (c.inn ++ [x]).length ≤ 16; rw [List.length_append, List.length_singleton]; omega, h5, h6, h7, ?_, ?_⟩
  · intro y hy
    have hy' : y ∈ c.inn ++ [x] := hy
    rcases List.mem_append.1 hy' with hy' | hy'
    · exact h8 y hy'
    · obtain rfl := List.mem_singleton.1 hy'
      exact hx
  · show ((c.inn ++ [x]).map kHd).Nodup
    rw [List.map_append, List.map_singleton, nodup_snoc]
    refine ⟨h9, fun hm => ?_⟩
    obtain ⟨y, hy, he⟩ := List.mem_map.1 hm
    exact hn y hy he
theorem find_snoc {p : Hd → Bool} {l : List Hd} {x : Hd} (hl : l.findIdx? p = none) (hx : p x = true) : (l ++ [x]).findIdx? p = some l.length := by
  rw [List.findIdx?_append, hl]
  simp [List.findIdx?_cons, hx]
/-! ### The map of what was done -/
abbrev kU (i : Int) : Lit := .int .u8 ((u8 (i + 1)).toNat : Int)
structure DoneM (M : Ents) (D : List Int) : Prop where
  has : ∀ i : Int, 0 ≤ i → i < 200 → mBool (mGet M (kU i) (.bool false)) = decide (i ∈ D)
  len : M.length ≤ D.length
theorem DoneM.nil : DoneM [] [] := ⟨fun i _ _ => rfl, Nat.le_refl _⟩
theorem isKeyU (i : Int) : WideAt.IsKeyLit (kU i) := trivial
theorem DoneM.put {M : Ents} {D : List Int} (h : DoneM M D) {i : Int} (hi : 0 ≤ i ∧ i < 200) : DoneM (mPut M (kU i) (.bool true)) (i :: D) := by
  refine ⟨fun j hj1 hj2 => ?_, ?_⟩
  · by_cases he : j = i
    · subst he
      rw [mGet_same (isKeyU _)]; simp [mBool]
    · rw [mGet_other (isKeyU _) (isKeyU _) (by
        intro hh
        apply he
        have h1 : ((u8 (i + 1)).toNat : Int) = ((u8 (j + 1)).toNat : Int) := by injection hh
        rw [u8_val (by omega), u8_val (by omega)] at h1
        omega), h.has j hj1 hj2]
      refine decide_eq_decide.2 ?_
      rw [List.mem_cons]
      exact ⟨.inr, fun hh => hh.resolve_left he⟩
  · have := mPut_len M (kU i) (.bool true)
    have := h.len
    rw [List.length_cons]; omega
end Go.Proofs.YtoonnnifelnaiaaGreatDoor.By

namespace Go.Proofs.YtoonnnifelnaiaaGreatDoor.By
open Go.RowKit L A
set_option linter.unusedVariables false
set_option maxRecDepth 20000
set_option linter.unusedSimpArgs false
theorem recv_cases {b : Ep} {p now : Int} {m : Msg} (hv : ValE b) (hp : PeerOk p) (hto : TimeOk now) (hm : ValM m) (hty : m.ty = 0 ∨ m.ty = 1) (hc : m.code ≠ 0) :
    (∃ j, j < (cleanE b now).inn.length ∧ (hd (cleanE b now).inn j).peer = p ∧ (hd (cleanE b now).inn j).id = m.id ∧ recvR b p m now = (cleanE b now, 2, (hd (cleanE b now).inn j).m, 0)) ∨
    ((cleanE b now).inn.findIdx? (hB p m.id) = none ∧ recvR b p m now = (cleanE b now, 6, Msg.none, 0)) ∨
    ((cleanE b now).inn.findIdx? (hB p m.id) = none ∧ (cleanE b now).inn.length < 16 ∧ recvR b p m now = (gotE (cleanE b now) ⟨p, m.id, now + 128, false, Msg.none⟩, 1, Msg.none, 0)) := by
  have e0 : recvR b p m now = gotR (cleanE b now) p m now := by
    rw [recvR, if_pos ⟨hv, hto, hp, hm⟩, if_neg (by omega), if_neg hc]
  rw [e0]
  generalize cleanE b now = c
  unfold gotR
  cases hf : c.inn.findIdx? (hB p m.id) with
  | some j =>
    refine .inl ⟨j, ?_⟩
    rw [List.findIdx?_eq_some_iff_getElem] at hf
    obtain ⟨hj, hp', -⟩ := hf
    have he : hd c.inn j = c.inn[j] := by simp [hj]
    rw [← he] at hp'
    unfold hB at hp'
    rw [Bool.and_eq_true, beq_iff_eq, beq_iff_eq] at hp'
    exact ⟨hj, hp'.1, hp'.2, rfl⟩
  | none =>
    right
    by_cases hfull : 16 ≤ c.inn.length
    · exact .inl ⟨rfl, if_pos hfull⟩
    · exact .inr ⟨rfl, by omega, if_neg hfull⟩
theorem hB_none {l : List Hd} {p id : Int} (hf : l.findIdx? (hB p id) = none) {x : Hd} (hx : x ∈ l) (h1 : x.peer = p) : x.id ≠ id := by
  intro h2
  have := List.findIdx?_eq_none_iff.1 hf x hx
  unfold hB at this
  rw [h1, h2] at this
  simp at this
/-- The answer to a request that was just met. -/
theorem answer_new {c : Ep} {p id now : Int} {r : Msg} (hv : ValE c) (hcc : cleanE c now = c) (hp : PeerOk p) (hid : IdOk id) (hto : TimeOk now) (hr : ValM (ackM r id)) (hf : c.inn.findIdx? (hB p id) = none) (hl : c.inn.length < 16) :
    ValE (gotE c ⟨p, id, now + 128, false, Msg.none⟩) ∧ ValE (gotE c ⟨p, id, now + 128, true, ackM r id⟩) ∧
      answerR (gotE c ⟨p, id, now + 128, false, Msg.none⟩) p id r now = (gotE c ⟨p, id, now + 128, true, ackM r id⟩, ackM r id, 0) := by
  have hn0 := hto.1
  have hkey : ∀ y ∈ c.inn, ∀ a m, kHd y ≠ kHd ⟨p, id, now + 128, a, m⟩ := fun y hy a m he => hB_none hf hy (congrArg Prod.fst he) (congrArg Prod.snd he)
  have hv1 : ValE (gotE c ⟨p, id, now + 128, false, Msg.none⟩) := got_val hv ⟨hp, hid, (by show 0 ≤ now + 128; omega), (by intro h; cases h), (fun _ => rfl)⟩ hl (fun y hy => hkey y hy _ _)
  have hv2 : ValE (gotE c ⟨p, id, now + 128, true, ackM r id⟩) := got_val hv ⟨hp, hid, (by show 0 ≤ now + 128; omega), (fun _ => hr), (by intro h; cases h)⟩ hl (fun y hy => hkey y hy _ _)
  refine ⟨hv1, hv2, ?_⟩
  have e2 : cleanE (gotE c ⟨p, id, now + 128, false, Msg.none⟩) now = gotE c ⟨p, id, now + 128, false, Msg.none⟩ := clean_got hcc (by simp [liveH]; omega)
  rw [answerR, if_pos ⟨hv1, hto, hp, hr⟩, e2]
  have hfs : (gotE c ⟨p, id, now + 128, false, Msg.none⟩).inn.findIdx? (hB p id) = some c.inn.length := find_snoc hf (by unfold hB; simp)
  rw [hfs]
  have hg : hd (gotE c ⟨p, id, now + 128, false, Msg.none⟩).inn c.inn.length = ⟨p, id, now + 128, false, Msg.none⟩ := by simp [gotE]
  show (if (hd (gotE c ⟨p, id, now + 128, false, Msg.none⟩).inn c.inn.length).ans = true then _ else _) = _
  rw [hg, if_neg (by simp)]
  simp [gotE]
/-- An acknowledgement takes what waits for it away, if anything. -/
theorem ack_cases {a : Ep} {p now : Int} {m : Msg} (hv : ValE a) (hp : PeerOk p) (hto : TimeOk now) (hm : ValM m) (hty : m.ty = 2) :
    (recvR a p m now).2.2.2 = 0 ∧ ((recvR a p m now).2.1 = 3 ∨ (recvR a p m now).2.1 = 5) ∧ ValE (recvR a p m now).1 ∧ (recvR a p m now).1.next = a.next ∧ (∀ u ∈ (recvR a p m now).1.used, u ∈ a.used) ∧ ∀ w ∈ (recvR a p m now).1.out, w ∈ a.out := by
  have e0 : recvR a p m now = endR (cleanE a now) p m := by
    rw [recvR, if_pos ⟨hv, hto, hp, hm⟩, if_pos (.inl hty)]
  have hcv := clean_val hv now
  have hcu : ∀ u ∈ (cleanE a now).used, u ∈ a.used := fun u hu => (List.mem_filter.1 hu).1
  have hco : (cleanE a now).out = a.out := rfl
  have hcn : (cleanE a now).next = a.next := rfl
  rw [e0]
  generalize cleanE a now = c at *
  unfold endR
  cases hf : c.out.findIdx? (wB p m.id) with
  | none => exact ⟨rfl, .inr rfl, hcv, hcn, hcu, fun w hw => hco ▸ hw⟩
  | some i =>
    obtain ⟨h1, h2, h3, h4, h5, h6, h7, h8, h9⟩ := hcv
    refine ⟨rfl, .inl (if_neg (by omega)), ⟨h1, Nat.le_trans (List.length_eraseIdx_le _ _) h2, h3, h4, fun w hw => h5 w (List.mem_of_mem_eraseIdx hw), ?_, h7, h8, h9⟩, hcn, hcu, fun w hw => hco ▸ List.mem_of_mem_eraseIdx hw⟩
    exact h6.sublist (List.Sublist.map _ (List.eraseIdx_sublist _ _))
end Go.Proofs.YtoonnnifelnaiaaGreatDoor.By

namespace Go.Proofs.YtoonnnifelnaiaaGreatDoor.By
open Go.RowKit L A
set_option linter.unusedVariables false
set_option maxRecDepth 20000
set_option linter.unusedSimpArgs false
abbrev reqT (i : Int) : Msg := ⟨0, 2, i, [u8 i], [], []⟩
abbrev ackT (i k : Int) : Msg := ⟨2, 68, i, [u8 i], [], [u8 k]⟩
theorem reqT0_val (b : UInt8) : ValM ⟨0, 2, 0, [b], [], []⟩ := of_decide_eq_true rfl
theorem ackT0_val (b c : UInt8) : ValM ⟨2, 68, 0, [b], [], [c]⟩ := of_decide_eq_true rfl
theorem reqT_val {i : Int} (hi : 0 ≤ i ∧ i ≤ 65535) : ValM (reqT i) := (reqT0_val _).withId (id := i) hi
theorem ackT_val {i k : Int} (hi : 0 ≤ i ∧ i ≤ 65535) : ValM (ackT i k) := (ackT0_val _ _).withId (id := i) hi
theorem reqT_reply {i k : Int} (hi : 0 ≤ i ∧ i ≤ 65535) : replyR (reqT i) 68 [] [u8 k] = (ackT i k, 0) := by
  have h2 : replyM (reqT i) 68 [] [u8 k] = ackT i k := rfl
  rw [replyR, if_pos ⟨reqT_val hi, show reqB 2 = true by decide⟩, h2, if_pos ⟨show respB 68 = true by decide, ackT_val hi⟩]
/-! ### The client -/
structure Cl (a : Ep) (n : Nat) : Prop where
  v : ValE a
  nx : a.next = (n : Int)
  us : ∀ u ∈ a.used, u.id < (n : Int)
  ou : ∀ w ∈ a.out, w.m.id < (n : Int)
theorem cl_new : Cl ⟨0, [], [], []⟩ 0 := ⟨val_new ⟨by omega, by omega⟩, rfl, by simp, by simp⟩
theorem top_send {a : Ep} {n : Nat} {now : Int} (h : Cl a n) (hn : n < 100) (hto : TimeOk now) :
    (sendR a 1 ⟨0, 2, 0, [u8 (n : Int)], [], []⟩ now).2.2 = 16 ∨ ((sendR a 1 ⟨0, 2, 0, [u8 (n : Int)], [], []⟩ now).2.2 = 0 ∧ (sendR a 1 ⟨0, 2, 0, [u8 (n : Int)], [], []⟩ now).2.1 = reqT n ∧ Cl (sendR a 1 ⟨0, 2, 0, [u8 (n : Int)], [], []⟩ now).1 (n + 1)) := by
  have hm := reqT0_val (u8 (n : Int))
  have hp : PeerOk 1 := ⟨by omega, by omega⟩
  rw [sendR, if_pos ⟨h.v, hto, hp, hm, .inl rfl⟩]
  have hcv := clean_val h.v now
  have hcu : ∀ u ∈ (cleanE a now).used, u.id < (n : Int) := fun u hu => h.us u (List.mem_filter.1 hu).1
  have hco : ∀ w ∈ (cleanE a now).out, w.m.id < (n : Int) := h.ou
  by_cases hf : SendFull (cleanE a now) ⟨0, 2, 0, [u8 (n : Int)], [], []⟩
  · rw [if_pos hf]; exact .inl rfl
  · rw [if_neg hf]
    right
    have hsv := sent_val hcv hp hto hm hf
    have hcn : (cleanE a now).next = (n : Int) := h.nx
    have hfr := free_next (p := 1) (n := n) (by omega) hcu hco
    rw [hcn, hfr] at hsv
    rw [h.nx, hfr]
    refine ⟨rfl, rfl, hsv, ?_, ?_, ?_⟩
    · show ((n : Int) + 1) % 65536 = ((n + 1 : Nat) : Int)
      omega
    · intro u hu
      have hu' : u ∈ (cleanE a now).used ++ [(⟨1, (n : Int), now + 128⟩ : Us)] := hu
      rcases List.mem_append.1 hu' with hu' | hu'
      · have := hcu u hu'; omega
      · obtain rfl := List.mem_singleton.1 hu'
        show (n : Int) < _; omega
    · intro w hw
      rw [sentE_con rfl] at hw
      rcases List.mem_append.1 hw with hw | hw
      · have := h.ou w hw; omega
      · obtain rfl := List.mem_singleton.1 hw
        show (n : Int) < _; omega
theorem top_ack {a : Ep} {n : Nat} {i k now : Int} (h : Cl a n) (hi : 0 ≤ i ∧ i ≤ 65535) (hto : TimeOk now) :
    (recvR a 1 (ackT i k) now).2.2.2 = 0 ∧ ((recvR a 1 (ackT i k) now).2.1 = 3 ∨ (recvR a 1 (ackT i k) now).2.1 = 5) ∧ Cl (recvR a 1 (ackT i k) now).1 n := by
  obtain ⟨h1, h2, h3, h4, h5, h6⟩ := ack_cases (p := 1) h.v ⟨by omega, by omega⟩ hto (ackT_val (k := k) hi) rfl
  exact ⟨h1, h2, h3, h4.trans h.nx, fun u hu => h.us u (h5 u hu), fun w hw => h.ou w (h6 w hw)⟩
/-! ### The network and the server -/
def NetT (net : List Pk) (n : Nat) (now : Int) : Prop := ∀ q ∈ net, ∃ i : Int, 0 ≤ i ∧ i < (n : Int) ∧ q.m = reqT i ∧ 0 ≤ q.at_ ∧ q.at_ ≤ now
theorem NetT.later {net : List Pk} {n n' : Nat} {now now' : Int} (h : NetT net n now) (hn : n ≤ n') (hnow : now ≤ now') : NetT net n' now' := fun q hq => by
  obtain ⟨i, h2, h3, h4, h5, h6⟩ := h q hq
  exact ⟨i, h2, by omega, h4, h5, by omega⟩
theorem NetT.snoc {net : List Pk} {n : Nat} {now : Int} (h : NetT net n now) {q : Pk} {i : Int} (hi : 0 ≤ i ∧ i < (n : Int)) (hm : q.m = reqT i) (ha : 0 ≤ q.at_ ∧ q.at_ ≤ now) : NetT (net ++ [q]) n now := fun x hx => by
  rcases List.mem_append.1 hx with hx | hx
  · exact h x hx
  · obtain rfl := List.mem_singleton.1 hx
    exact ⟨i, hi.1, hi.2, hm, ha.1, ha.2⟩
def SrvB (b : Ep) (num : Int → Int) (D : List Int) : Prop := ∀ h ∈ b.inn, h.peer = 0 ∧ h.ans = true ∧ h.m = ackT h.id (num h.id) ∧ h.id ∈ D
theorem SrvB.clean {b : Ep} {num : Int → Int} {D : List Int} (h : SrvB b num D) (now : Int) : SrvB (cleanE b now) num D := fun x hx => h x (List.mem_filter.1 hx).1
def BackT (back : List Pk) (num : Int → Int) (D : List Int) : Prop := ∀ q ∈ back, ∃ i ∈ D, q.m = ackT i (num i)
def upd (num : Int → Int) (i k : Int) : Int → Int := fun j => if j = i then k else num j
theorem upd_same (num : Int → Int) (i k : Int) : upd num i k i = k := if_pos rfl
theorem upd_other (num : Int → Int) {i j k : Int} (h : j ≠ i) : upd num i k j = num j := if_neg h
theorem upd_mem {num : Int → Int} {D : List Int} {i j k : Int} (hd : i ∉ D) (hj : j ∈ D) : upd num i k j = num j := upd_other num (fun e => hd (by rw [← e]; exact hj))
structure NumT (num : Int → Int) (D : List Int) (n : Nat) : Prop where
  nd : D.Nodup
  inn : ∀ i ∈ D, 0 ≤ i ∧ i < (n : Int)
  rg : ∀ i ∈ D, 1 ≤ num i ∧ num i ≤ (D.length : Int)
theorem NumT.nil : NumT (fun _ => 0) [] 0 := ⟨List.nodup_nil, by simp, by simp⟩
theorem NumT.more {num : Int → Int} {D : List Int} {n n' : Nat} (h : NumT num D n) (hn : n ≤ n') : NumT num D n' := ⟨h.nd, fun i hi => by have := h.inn i hi; omega, h.rg⟩
theorem NumT.le {num : Int → Int} {D : List Int} {n : Nat} (h : NumT num D n) : D.length ≤ n := by
  have := nodup_sub D ((List.range n).map fun k : Nat => (k : Int)) h.nd (fun i hi => by
    have := h.inn i hi
    exact List.mem_map.2 ⟨i.toNat, List.mem_range.2 (by omega), by omega⟩)
  simpa using this
theorem NumT.put {num : Int → Int} {D : List Int} {n : Nat} (h : NumT num D n) {i : Int} (hi : 0 ≤ i ∧ i < (n : Int)) (hd : i ∉ D) : NumT (upd num i (D.length + 1)) (i :: D) n := by
  refine ⟨List.nodup_cons.2 ⟨hd, h.nd⟩, fun j hj => ?_, fun j hj => ?_⟩
  · rcases List.mem_cons.1 hj with rfl | hj
    · exact hi
    · exact h.inn j hj
  · rw [List.length_cons]
    rcases List.mem_cons.1 hj with rfl | hj
    · rw [upd_same]; omega
    · rw [upd_mem hd hj]
      have := h.rg j hj
      omega
theorem BackT.put {back : List Pk} {num : Int → Int} {D : List Int} (h : BackT back num D) {i k : Int} (hd : i ∉ D) : BackT back (upd num i k) (i :: D) := fun q hq => by
  obtain ⟨j, hj, hm⟩ := h q hq
  exact ⟨j, List.mem_cons_of_mem _ hj, by rw [upd_mem hd hj]; exact hm⟩
theorem BackT.snoc {back : List Pk} {num : Int → Int} {D : List Int} (h : BackT back num D) {q : Pk} {i : Int} (hi : i ∈ D) (hm : q.m = ackT i (num i)) : BackT (back ++ [q]) num D := fun x hx => by
  rcases List.mem_append.1 hx with hx | hx
  · exact h x hx
  · obtain rfl := List.mem_singleton.1 hx
    exact ⟨i, hi, hm⟩
theorem top_recv {b : Ep} {num : Int → Int} {D : List Int} {net : List Pk} {n : Nat} {now : Int} {q : Pk} {i : Int} (hv : ValE b) (hB : SrvB b num D) (hk : Kept b D net now) (hnet : NetT net n now) (hq : q ∈ net) (hm : q.m = reqT i) (hi : 0 ≤ i ∧ i ≤ 65535) (hto : TimeOk now) (hal : now < q.at_ + 128) :
    (recvR b 0 (reqT i) now).2.2.2 = 0 ∧ ValE (recvR b 0 (reqT i) now).1 ∧
      (((recvR b 0 (reqT i) now).2.1 = 2 ∧ SrvB (recvR b 0 (reqT i) now).1 num D ∧ Kept (recvR b 0 (reqT i) now).1 D net now ∧ i ∈ D ∧ (recvR b 0 (reqT i) now).2.2.1 = ackT i (num i)) ∨
       ((recvR b 0 (reqT i) now).2.1 = 6 ∧ SrvB (recvR b 0 (reqT i) now).1 num D ∧ Kept (recvR b 0 (reqT i) now).1 D net now) ∨
       ((recvR b 0 (reqT i) now).2.1 = 1 ∧ i ∉ D ∧ ∀ k : Int, (answerR (recvR b 0 (reqT i) now).1 0 i (ackT i k) now).2.2 = 0 ∧ (answerR (recvR b 0 (reqT i) now).1 0 i (ackT i k) now).2.1 = ackT i k ∧ ValE (answerR (recvR b 0 (reqT i) now).1 0 i (ackT i k) now).1 ∧
         SrvB (answerR (recvR b 0 (reqT i) now).1 0 i (ackT i k) now).1 (upd num i k) (i :: D) ∧ Kept (answerR (recvR b 0 (reqT i) now).1 0 i (ackT i k) now).1 (i :: D) net now)) := by
  have hp : PeerOk 0 := ⟨by omega, by omega⟩
  have hcv := clean_val hv now
  have hcB := hB.clean now
  have hck := hk.clean
  have hcc := clean_clean b now
  have hno : (cleanE b now).inn.findIdx? (By.hB 0 i) = none → i ∉ D := by
    intro hf hd
    obtain ⟨x, hx, h1, h2⟩ := hck q hq (by rw [hm]; exact hd) hal
    exact hB_none hf hx (hcB x hx).1 (by rw [h1, hm])
  rcases recv_cases (p := 0) hv hp hto (reqT_val hi) (.inl rfl) (by show (2 : Int) ≠ 0; omega) with ⟨j, hj, h1, h2, e⟩ | ⟨hf, e⟩ | ⟨hf, hl, e⟩
  · rw [e]
    have hx : hd (cleanE b now).inn j ∈ (cleanE b now).inn := getD_mem Hd.none hj
    have h3 := hcB _ hx
    rw [show (hd (cleanE b now).inn j).id = i from h2] at h3
    exact ⟨rfl, hcv, .inl ⟨rfl, hcB, hck, h3.2.2.2, h3.2.2.1⟩⟩
  · rw [e]
    exact ⟨rfl, hcv, .inr (.inl ⟨rfl, hcB, hck⟩)⟩
  · rw [e]
    have hnd := hno hf
    refine ⟨rfl, (answer_new (r := ackT i 0) hcv hcc hp hi hto (ackT_val hi) hf hl).1, .inr (.inr ⟨rfl, hnd, fun k => ?_⟩)⟩
    obtain ⟨-, hv2, e3⟩ := answer_new (r := ackT i k) hcv hcc hp hi hto (ackT_val hi) hf hl
    rw [show answerR (gotE (cleanE b now) ⟨0, (reqT i).id, now + 128, false, Msg.none⟩) 0 i (ackT i k) now = _ from e3]
    refine ⟨rfl, rfl, hv2, ?_, ?_⟩
    · intro x hx
      have hx' : x ∈ (cleanE b now).inn ++ [(⟨0, i, now + 128, true, ackM (ackT i k) i⟩ : Hd)] := hx
      rcases List.mem_append.1 hx' with hx' | hx'
      · have := hcB x hx'
        refine ⟨this.1, this.2.1, ?_, List.mem_cons_of_mem _ this.2.2.2⟩
        rw [upd_mem hnd this.2.2.2]
        exact this.2.2.1
      · obtain rfl := List.mem_singleton.1 hx'
        refine ⟨rfl, rfl, ?_, List.mem_cons_self ..⟩
        rw [upd_same]
    · intro q' hq' hd' hl'
      rcases List.mem_cons.1 hd' with h1 | h1
      · refine ⟨⟨0, i, now + 128, true, ackM (ackT i k) i⟩, List.mem_append_right _ (List.mem_singleton.2 rfl), h1.symm, ?_⟩
        obtain ⟨_, _, _, _, _, h6⟩ := hnet q' hq'
        show q'.at_ + 128 ≤ now + 128
        omega
      · obtain ⟨x, hx, h2, h3⟩ := hck q' hq' h1 hl'
        exact ⟨x, List.mem_append_left _ hx, h2, h3⟩
end Go.Proofs.YtoonnnifelnaiaaGreatDoor.By

namespace Go.Proofs.YtoonnnifelnaiaaGreatDoor.A
open Go.RowKit L
set_option linter.unusedVariables false
set_option maxRecDepth 20000
section
variable {P : Program} {k e : TypeId} {E : Env} {H : List HE} {N : Nat} {o : Oper}
/-- m[k], elements int. -/
theorem O.lookI {t : TypeId} {m x : Operand} {b : Nat} {M : Ents} {kv : AV} {kl : Lit} {q : IntKind} [hd : TyD P t (.map k e)] [he : TyD P e (.int q)] (ho : o.op = .lookup t m x false) (hm : ev E m = some (.val (.map (some b)))) (hx : ev E x = some kv) [K : KeyT P k] [hz : ZeroT P e (.int q 0)] (hM : mapHE P k e b M ∈ H) (hk : KeyA P k kv kl) :
    OpW P N o E H (Is (.val (.int q (mInt (mGet M kl (.int q 0)))))) := .of_run fun R a W h1 h2 ha => by
  have hown := (h2 _ hM).1
  obtain ⟨l, hw, hp⟩ := hown.size
  have hkey := hk R W _ (ha.ev hx)
  obtain ⟨v, ps, hrun, hv⟩ := hw.lookup K.ax hd.ax (hz.ax W) (plainElem_int he.ax (by cases q <;> decide)) hkey
  rw [dents_get hp (hown.apart K.ax) (K.ax.key hkey)] at hv
  refine ⟨v, by simp [execOp, ho, (ha.ev hm).val_inv, hrun, Result.andThen], ?_⟩
  rcases plainInv hv with ⟨c, h3, rfl⟩ | ⟨q', c, h3, rfl, h4⟩ | ⟨s, h3⟩
  · unfold plainElem at hv; rw [he.ax] at hv; cases hv
  · rw [he.ax] at h4; cases h4
    rw [h3]
    exact .val _
  · rw [h3] at hv
    unfold plainElem at hv
    rw [he.ax] at hv
    cases v <;> simp at hv
end
end Go.Proofs.YtoonnnifelnaiaaGreatDoor.A
namespace Go.Proofs.YtoonnnifelnaiaaGreatDoor.By
open Go.RowKit L A
set_option linter.unusedVariables false
set_option linter.unusedSimpArgs false
instance : KeyT Tryz.prog 3 := ⟨Go.Maps.int_keyed Tryz.underlying3⟩
instance : ZeroT Tryz.prog 3 (.int .i64 0) := ⟨fun W => by kernel_rfl⟩
abbrev mapN (b : Nat) (M : Ents) : HE := mapHE Tryz.prog 3 3 b M
abbrev kN (i : Int) : Lit := .int .i64 i
def entN (num : Int → Int) (D : List Int) : Ents := D.map fun i => (kN i, kN (num i))
theorem entN_len (num : Int → Int) (D : List Int) : (entN num D).length = D.length := by simp [entN]
theorem isKeyN (i : Int) : WideAt.IsKeyLit (kN i) := trivial
theorem sameN (i j : Int) : (kN i).sameKey (kN j) = decide (i = j) := by
  rw [Bool.eq_iff_iff, WideAt.sameKey_iff (isKeyN j), decide_eq_true_eq]
  constructor
  · intro h; injection h
  · rintro rfl; rfl
theorem entN_has (num : Int → Int) (D : List Int) (i : Int) : mHas (entN num D) (kN i) = decide (i ∈ D) := by
  unfold mHas entN
  rw [Bool.eq_iff_iff, List.any_map, List.any_eq_true, decide_eq_true_eq]
  constructor
  · rintro ⟨j, hj, h⟩
    have h' : (kN j).sameKey (kN i) = true := h
    rw [sameN, decide_eq_true_eq] at h'
    subst h'; exact hj
  · intro h
    exact ⟨i, h, by show (kN i).sameKey (kN i) = true; rw [sameN]; simp⟩
theorem entN_get {num : Int → Int} {D : List Int} {i : Int} (h : i ∈ D) (z : Lit) : mGet (entN num D) (kN i) z = kN (num i) := by
  induction D with
  | nil => cases h
  | cons j D ih =>
    unfold mGet entN
    rw [List.map_cons, List.find?_cons]
    show (match (match (kN j).sameKey (kN i) with | true => some (kN j, kN (num j)) | false => List.find? (fun p => p.1.sameKey (kN i)) (D.map fun i => (kN i, kN (num i)))) with | some p => p.2 | none => z) = _
    by_cases e : j = i
    · subst e
      rw [sameN, decide_eq_true rfl]
    · rw [sameN, decide_eq_false e]
      have h' : i ∈ D := by
        rcases List.mem_cons.1 h with h | h
        · exact absurd h.symm e
        · exact h
      exact ih h'
theorem entN_put {num : Int → Int} {D : List Int} {i k : Int} (h : i ∉ D) : mPut (entN num D) (kN i) (kN k) = entN (upd num i k) (i :: D) := by
  have e1 : mDel (entN num D) (kN i) = entN num D := by
    refine List.filter_eq_self.2 fun p hp => ?_
    obtain ⟨j, hj, rfl⟩ := List.mem_map.1 hp
    show (!(kN j).sameKey (kN i)) = true
    rw [sameN, decide_eq_false (by rintro rfl; exact h hj)]
    rfl
  unfold mPut
  rw [e1]
  unfold entN
  rw [List.map_cons, upd_same]
  refine congrArg _ (List.map_congr_left fun j hj => ?_)
  rw [upd_mem h hj]
theorem pksB_snoc (l : List Pk) (m : Msg) (t : Int) : pksA l ++ [.val (.int .i64 m.ty), .val (.int .i64 m.code), .val (.int .i64 m.id), roB m.tok, roO m.opts, roB m.pay, .val (.int .i64 t)] = pksA (l ++ [(⟨m, t⟩ : Pk)]) := (pksA_snoc l ⟨m, t⟩).symm
end Go.Proofs.YtoonnnifelnaiaaGreatDoor.By

namespace Go.Proofs.YtoonnnifelnaiaaGreatDoor.A
open Go.RowKit L
set_option linter.unusedVariables false
set_option maxRecDepth 20000
set_option linter.unusedSimpArgs false
/-- What is known of the block of a package variable. -/
def GK (g : Nat) (vs : List Value) (W : World) : Prop := ∃ cs T, W.heap[g]? = some (.cells cs T (0, 0)) ∧ cs.toList = vs
theorem GK.lt {g : Nat} {vs : List Value} {W : World} (h : GK g vs W) : g < W.heap.size := by
  obtain ⟨cs, T, h, _⟩ := h
  exact (Array.getElem?_eq_some_iff.1 h).1
theorem GK.mods {g : Nat} {vs : List Value} {S : Nat → Prop} {W W' : World} (h : GK g vs W) (hm : Mods S W W') (hS : ¬ S g) : GK g vs W' := by
  have hl := h.lt
  obtain ⟨cs, T, h1, h2⟩ := h
  exact ⟨cs, T, by rw [hm.block g hl hS]; exact h1, h2⟩
/-- What a function does where the variable is known. -/
def SpK (K : World → Prop) (P : Program) (f : FuncId) (args : List AV) (H0 : List HE) (Post : AV → List HE → Prop) : Prop :=
  ∀ (W : World) (R : Nat → Prop) (us : List Value), K W → (∀ b, R b → b < W.heap.size) → (∀ e ∈ H0, e.ok R W ∧ ∀ b, e.foot b → ¬ R b) → H0.Pairwise Disj → RelL R W args us →
    Calls P f us.toArray W fun e W' => ∃ u r H' R', e = .returned u ∧ Post r H' ∧ RelS ⟨W, footOf H0, R, 0⟩ R' H' W' ∧ RelV R' W' r u
theorem SpK.of {K : World → Prop} {P : Program} {f : FuncId} {args : List AV} {H0 : List HE} {Post : AV → List HE → Prop} (h : Sp P f args H0 Post) : SpK K P f args H0 Post := fun W R us _ h1 h2 h3 h4 => h W R us h1 h2 h3 h4
theorem SpK.coe {K : World → Prop} {P : Program} {f : FuncId} {args args' : List AV} {H0 : List HE} {Post : AV → List HE → Prop} (h : SpK K P f args' H0 Post) (hc : CoeL args args') : SpK K P f args H0 Post := fun W R us hK h1 h2 h3 h4 => h W R us hK h1 h2 h3 (hc R W us h4)
theorem notFoot_nil {g : Nat} : ¬ footOf [] g := fun ⟨e, he, _⟩ => by cases he
theorem notFoot_blk {g B T room : Nat} {xs : List AV} (h : B ≠ g) : ¬ footOf [.blk B T room xs] g := fun ⟨e, he, hb⟩ => by
  obtain rfl := List.mem_singleton.1 he
  exact h hb.symm
theorem SpK.enter {K : World → Prop} {P : Program} {f : FuncId} {args : List AV} {H0 : List HE} {Post : AV → List HE → Prop} {fn : Func} {c : Code} (hf : P.funcs[f]? = some fn) (hb : fn.body = some c) (n : Nat) (hn : fn.ntmps = n) (hl : Nat.ble args.length n = true)
    (h : ∀ w0 R0, K w0 → AW ⟨w0, footOf H0, R0, n⟩ P (FnQ ⟨w0, footOf H0, R0, n⟩ P fn Post) c (envOf 0 args) H0) : SpK K P f args H0 Post := fun W R us hK h1 h2 h3 h4 => by
  refine calls_of_wp hf hb (h W R hK R _ W ⟨Mods.refl _ _, h1, fun _ h => h, fun _ h => .inl h, fun e he => (h2 e he).1, fun e he b hb => ⟨.inr ⟨e, he, hb⟩, (h2 e he).2 b hb⟩, h3⟩ ⟨rfl, ?_, ?_⟩)
  · have := Nat.le_of_ble_eq_true hl
    have h5 := h4.1
    simp [hn]; omega
  · intro t v ht
    have key : ∀ (args : List AV) (k : Nat), look (envOf k args) t = some v → k ≤ t ∧ args[t - k]? = some v := by
      intro args
      induction args with
      | nil => intro k h; cases h
      | cons x r ih =>
        intro k h
        rw [envOf] at h
        unfold look at h
        cases hb : Nat.beq k t with
        | true =>
          rw [hb] at h
          have := Nat.eq_of_beq_eq_true hb
          subst this
          simp at h ⊢; exact h
        | false =>
          rw [hb] at h
          obtain ⟨h5, h6⟩ := ih (k + 1) h
          have : k ≠ t := fun e => by subst e; simp at hb
          refine ⟨by omega, ?_⟩
          rw [show t - k = (t - (k + 1)) + 1 by omega]
          simpa using h6
    obtain ⟨_, h5⟩ := key args 0 ht
    obtain ⟨u, h6, h7⟩ := h4.get (j := t) (by simpa using h5)
    have ht' : t < us.length := (List.getElem?_eq_some_iff.1 h6).1
    have hu : us[t] = u := (List.getElem?_eq_some_iff.1 h6).2
    have : Act.eval { tmps := us.toArray ++ Array.replicate (fn.ntmps - us.toArray.size) undef, defers := [] } (.tmp t) = u := by
      simp only [Act.eval, Array.getD]
      rw [dif_pos (by simp; omega)]
      simp [Array.getElem_append, ht', hu]
    rw [this]; exact h7
section
variable {Γ : Cx} {P : Program} {Q : Exit → Act → World → Prop} {E : Env} {H : List HE} {N : Nat} {o : Oper} {ops : Array Oper} {rest : List Oper}
/-- A call of a function whose contract needs the variable; it may write blocks of the caller's. -/
theorem AO.callMK {f : FuncId} {d : Nat} {g : Nat} {vs : List Value} {xs : List Operand} {ats : Array TypeId} {args : List AV} {H0 H1 : List HE} {Post : AV → List HE → Prop} {fn : Func} (hK : GK g vs Γ.w0) (hS : ¬ Γ.S g) (ho : o.op = .call { callee := .value (.func f), args := xs.toArray, argTypes := ats }) (hw : wantedIs ops E o = some true) (hfn : P.funcs[f]? = some fn) (hn : (fn.name == "runtime.NumGoroutine") = false) (hb : fn.body.isNone = false)
    (hx : evs E xs = some args) (hd : o.dst = some d) (hN : d < Γ.N) (hH : H.Perm (H0 ++ H1)) (h : SpK (GK g vs) P f args H0 Post) (next : ∀ r H', Post r H' → AO Γ P ops Q rest ((d, r) :: E) (H' ++ H1)) : AO Γ P ops Q (o :: rest) E H := fun R a W hs ha => by
  have hs0 := hs.perm hH.symm
  have hc := h W R (xs.map a.eval) (hK.mods hs.mods hS) hs.rlt (fun e he => ⟨hs0.ok e (List.mem_append_left _ he), fun b hb => (hs0.own e (List.mem_append_left _ he) b hb).2⟩) (List.pairwise_append.1 hs0.disj).1 (ha.evs hx)
  unfold wpList
  rw [if_pos (wanted_is ha hw)]
  refine .inl ?_
  unfold Oper.wp
  rw [run_callF ho hfn hn hb, List.map_toArray]
  refine Calls.mono hc ?_
  rintro e W' ⟨u, r, H', R', rfl, hP, hs', hv⟩
  show wpList P ops Q rest (a.put o.dst u) W'
  rw [hd]
  have hS0 : ∀ b, footOf H0 b → Γ.w0.heap.size ≤ b ∨ Γ.S b := fun b ⟨e, he, hb⟩ => (hs0.own e (List.mem_append_left _ he) b hb).1
  have hnR : ∀ b, footOf H0 b → ¬ R b := fun b ⟨e, he, hb⟩ => (hs0.own e (List.mem_append_left _ he) b hb).2
  have h1lt : ∀ e ∈ H1, ∀ b, e.foot b → b < W.heap.size := fun e he b hb => HE.ok_lt (hs0.ok e (List.mem_append_right _ he)) hb
  have h10 : ∀ e ∈ H1, ∀ b, e.foot b → ¬ footOf H0 b := fun e he b hb ⟨f, hf, hb'⟩ => (List.pairwise_append.1 hs0.disj).2.2 f hf e he b hb' hb
  have hR : ∀ b, R b → W'.heap[b]? = W.heap[b]? := fun b hb => hs'.mods.block b (hs.rlt b hb) fun hh => hnR b hh hb
  refine next r H' hP R' _ W' ⟨Mods.then hs.mods hs'.mods fun b hb hh => ?_, hs'.rlt, fun b hb => hs'.rsub b (hs.rsub b hb), fun b hb => ?_, ?_, ?_, ?_⟩ ((ha.mono hs'.rsub hR).put hN hv)
  · rcases hS0 b hh with h | h
    · omega
    · exact h
  · rcases hs'.rnew b hb with h | h | h
    · exact hs.rnew b h
    · exact .inr (.inl (Nat.le_trans hs.mods.size h))
    · exact .inr (hS0 b h)
  · intro e he
    rcases List.mem_append.1 he with he | he
    · exact hs'.ok e he
    · exact HE.ok_mono hs'.rsub hR hs'.mods.size (fun b hb => hs'.mods.block b (h1lt e he b hb) (h10 e he b hb)) (hs0.ok e (List.mem_append_right _ he))
  · intro e he b hb
    rcases List.mem_append.1 he with he | he
    · obtain ⟨h2, h3⟩ := hs'.own e he b hb
      refine ⟨?_, h3⟩
      rcases h2 with h2 | h2
      · exact .inl (Nat.le_trans hs.mods.size h2)
      · exact hS0 b h2
    · refine ⟨(hs0.own e (List.mem_append_right _ he) b hb).1, fun hr => ?_⟩
      rcases hs'.rnew b hr with h | h | h
      · exact (hs0.own e (List.mem_append_right _ he) b hb).2 h
      · have h5 := h1lt e he b hb
        exact absurd h (by simpa using h5)
      · exact h10 e he b hb h
  · rw [List.pairwise_append]
    refine ⟨hs'.disj, (List.pairwise_append.1 hs0.disj).2.1, fun e he f hf b hb hb' => ?_⟩
    rcases (hs'.own e he b hb).1 with h | h
    · have h5 := h1lt f hf b hb'
      exact absurd h (by simpa using h5)
    · exact h10 f hf b hb' h
theorem AO.callK {f : FuncId} {d : Nat} {g : Nat} {vs : List Value} {xs : List Operand} {ats : Array TypeId} {args : List AV} {v : AV} {fn : Func} (hK : GK g vs Γ.w0) (hS : ¬ Γ.S g) (ho : o.op = .call { callee := .value (.func f), args := xs.toArray, argTypes := ats }) (hw : wantedIs ops E o = some true) (hfn : P.funcs[f]? = some fn) (hn : (fn.name == "runtime.NumGoroutine") = false) (hb : fn.body.isNone = false)
    (hx : evs E xs = some args) (hd : o.dst = some d) (hN : Nat.ble (d + 1) Γ.N = true) (h : SpK (GK g vs) P f args [] (Is v)) (next : AO Γ P ops Q rest ((d, v) :: E) H) : AO Γ P ops Q (o :: rest) E H :=
  AO.callMK (H0 := []) (H1 := H) hK hS ho hw hfn hn hb hx hd (Nat.le_of_ble_eq_true hN) (List.Perm.refl _) h (by rintro _ _ ⟨rfl, rfl⟩; exact next)
theorem AO.callK1 {f : FuncId} {d : Nat} {g : Nat} {vs : List Value} {xs : List Operand} {ats : Array TypeId} {args : List AV} {i : Nat} {e e' : HE} {v : AV} {H' : List HE} {fn : Func} (hK : GK g vs Γ.w0) (hS : ¬ Γ.S g) (ho : o.op = .call { callee := .value (.func f), args := xs.toArray, argTypes := ats }) (hw : wantedIs ops E o = some true) (hfn : P.funcs[f]? = some fn) (hn : (fn.name == "runtime.NumGoroutine") = false) (hb : fn.body.isNone = false)
    (hx : evs E xs = some args) (hd : o.dst = some d) (hN : Nat.ble (d + 1) Γ.N = true) (hi : H[i]? = some e) (h : SpK (GK g vs) P f args [e] (IsM v e')) (hH : H.set i e' = H') (next : AO Γ P ops Q rest ((d, v) :: E) H') : AO Γ P ops Q (o :: rest) E H :=
  AO.callMK (H0 := [e]) (H1 := H.eraseIdx i) hK hS ho hw hfn hn hb hx hd (Nat.le_of_ble_eq_true hN) (perm_idx hi) h (by
    rintro _ _ ⟨rfl, rfl⟩
    exact AO.perm (by rw [← hH]; exact perm_set hi) next)
/-- .. that block is not the variable's. -/
theorem AO.callK1n {f : FuncId} {d : Nat} {g : Nat} {vs : List Value} {xs : List Operand} {ats : Array TypeId} {args : List AV} {i B T room : Nat} {ys : List AV} {e' : HE} {v : AV} {H' : List HE} {fn : Func} (hK : GK g vs Γ.w0) (hS : ¬ Γ.S g) (ho : o.op = .call { callee := .value (.func f), args := xs.toArray, argTypes := ats }) (hw : wantedIs ops E o = some true) (hfn : P.funcs[f]? = some fn) (hn : (fn.name == "runtime.NumGoroutine") = false) (hb : fn.body.isNone = false)
    (hx : evs E xs = some args) (hd : o.dst = some d) (hN : Nat.ble (d + 1) Γ.N = true) (hi : H[i]? = some (.blk B T room ys)) (h : B ≠ g → SpK (GK g vs) P f args [.blk B T room ys] (IsM v e')) (hH : H.set i e' = H') (next : AO Γ P ops Q rest ((d, v) :: E) H') : AO Γ P ops Q (o :: rest) E H := fun R a W hs ha => by
  have hB : B ≠ g := fun e => by
    rcases (hs.own _ (List.mem_of_getElem? hi) B rfl).1 with h1 | h1
    · have := hK.lt; omega
    · exact hS (by rw [← e]; exact h1)
  exact AO.callK1 hK hS ho hw hfn hn hb hx hd hN hi (h hB) hH next R a W hs ha
/-- A call that leaves one block of the caller's changed, where the guard is known. -/
theorem AO.callM1w {f : FuncId} {d : Nat} {xs : List Operand} {ats : Array TypeId} {args : List AV} {i : Nat} {e e' : HE} {v : AV} {H' : List HE} {fn : Func} (ho : o.op = .call { callee := .value (.func f), args := xs.toArray, argTypes := ats }) (hw : wantedIs ops E o = some true) (hfn : P.funcs[f]? = some fn) (hn : (fn.name == "runtime.NumGoroutine") = false) (hb : fn.body.isNone = false)
    (hx : evs E xs = some args) (hd : o.dst = some d) (hN : Nat.ble (d + 1) Γ.N = true) (hi : H[i]? = some e) (h : Sp P f args [e] (IsM v e')) (hH : H.set i e' = H') (next : AO Γ P ops Q rest ((d, v) :: E) H') : AO Γ P ops Q (o :: rest) E H := by
  refine AO.callMGw i ho hw hfn hn hb hx hd hN hi h ?_
  rintro _ _ ⟨rfl, rfl⟩
  exact AO.perm (by rw [← hH]; exact perm_set hi) next
/-- Reading an array that is a package variable. -/
theorem AO.loadG {T d g k : Nat} {vs : List Value} [hg : TyG P T true k] (hK : GK g vs Γ.w0) (hS : ¬ Γ.S g) (ho : o.op = .load T (.global g)) (hw : wantedIs ops E o = some true) (hd : o.dst = some d) (hN : Nat.ble (d + 1) Γ.N = true) (hk : vs.length = k)
    (next : AO Γ P ops Q rest ((d, .agg (vs.map .val)) :: E) H) : AO Γ P ops Q (o :: rest) E H := fun R a W hs ha => by
  obtain ⟨cs, T', h1, h2⟩ := hK.mods hs.mods hS
  have hl := run_loadVarK hg W g 0 vs hk (fun i u hi => by
    rw [cell_of_row W g (0 + i) cs T' (0, 0) h1]
    rw [← h2] at hi
    simpa using hi)
  have hrun : (execOp a.eval o).run P W = .ok (.value (.agg vs.toArray)) W := by
    simp only [execOp, ho, Act.eval, Instr.loadAt, Instr.sureAddr, Sem.run_bind, Sem.run_pure, Result.andThen_ok, hl]
  unfold wpList
  rw [if_pos (wanted_is ha hw)]
  refine .inl ?_
  unfold Oper.wp
  rw [hrun]
  show wpList P ops Q rest (a.put o.dst _) W
  rw [hd]
  refine next R _ W hs (ha.put (Nat.le_of_ble_eq_true hN) (RelL.toAgg (xs := vs.map .val) (us := vs) ⟨by simp, fun j hj => ?_⟩))
  have hj' : j < vs.length := by simpa using hj
  have : vs.getD j undef = vs[j] := by simp [List.getD, hj']
  rw [this, List.getElem_map]
  exact .val _
/-- x[i] of an array whose elements are of one cell -/
theorem O.index1 {T U : Nat} {x y : Operand} {n : Nat} {kk : IntKind} {z : Int} {xs : List AV} {v : AV} [hd : TyD P T (.array n U)] [hg : TyG P U false 1] (ho : o.op = .index T x y) (hx : ev E x = some (.agg xs)) (hy : ev E y = some (.val (.int kk z))) (hz : 0 ≤ z ∧ z < n) (hv : xs[z.toNat]? = some v) :
    OpW P N o E H (Is v) := .of_run fun R a W h1 h2 ha => by
  obtain ⟨d, inf, hd1, hi1, hk1, hg1⟩ := hg.ax
  obtain ⟨us, hu, hr⟩ := (ha.ev hx).agg_inv
  obtain ⟨u, h3, h4⟩ := hr.get hv
  refine ⟨u, ?_, h4⟩
  simp only [execOp, ho, hu, (ha.ev hy).val_inv, Instr.index, asIntOf, run_underlying hd.ax, Sem.run_bind, Sem.run_pure, Result.andThen_ok, sizeOf, typeInfo, run_program, hi1, hk1]
  rw [if_pos hz]
  cases d <;> first | (cases hg1; done) | (simp [part, isAgg, run_underlying hd1, sizeOf, typeInfo, hi1, hk1, h3])
/-- An error that is nil is nil. -/
theorem O.neqNilI {T T' : Nat} {x : Operand} (hu : ∃ ms, P.underlying T = some (.interface ms)) (ho : o.op = .binOp .neq T x (.const .nilIface) T') (hx : ev E x = some (.val .nilIface)) : OpW P N o E H (Is (.val (.bool false))) := by
  obtain ⟨ms, hu⟩ := hu
  have hr := fun W => run_underlying hu W
  refine O.bin ho hx rfl fun W => ?_
  have h1 : (eqGuard .neq T x (.const .nilIface) .nilIface .nilIface).run P W = .ok () W := by
    unfold eqGuard
    simp
  have h2 : ∀ d, (Op.equalIn (d + 1) T .nilIface .nilIface).run P W = .ok true W := fun d => by
    unfold Op.equalIn
    rw [Sem.run_bind, hr W]
    rfl
  have h3 : (Op.equal T .nilIface .nilIface).run P W = .ok true W := h2 9999
  rw [Sem.run_bind, h1]
  simp only [Result.andThen_ok]
  show (do pure (Value.bool (!(← Op.equal T .nilIface .nilIface))) : Sem Value).run P W = _
  rw [Sem.run_bind, h3]
  rfl
/-! ### Parts of strings -/
def SBnd (E : Env) (lo : Option Operand) (d l : Nat) : Prop := match lo with
  | none => l = d
  | some y => ∃ k z, ev E y = some (.val (.int k z)) ∧ z = (l : Int)
theorem sbnd_run {R : Nat → Prop} {W : World} {a : Act} {lo : Option Operand} {l : Nat} (d n : Nat) (code : BoundsCode) (ha : RelA N R W E a) (h : SBnd E lo d l) (hl : l ≤ n) :
    (match lo.map a.eval with | some v => Instr.sliceBound v n code | none => pure d : Sem Nat).run P W = .ok l W := by
  cases lo with
  | none => obtain rfl : l = d := h; rfl
  | some y =>
    obtain ⟨k, z, h1, rfl⟩ := h
    have hv := (ha.ev h1).val_inv
    simp [hv, Instr.sliceBound, asIntOf, hl]
theorem O.sliceS {T l h : Nat} {x : Operand} {lo hi : Option Operand} {s r : ByteArray} [hT : TyD P T .string] (ho : o.op = .slice T x lo hi none) (hx : ev E x = some (.val (.string s))) (h1 : SBnd E lo 0 l) (h2 : SBnd E hi s.size h) (hlh : l ≤ h) (hh : h ≤ s.size) (hr : s.extract l h = r) : OpW P N o E H (Is (.val (.string r))) := .of_run fun R a W _ _ ha => by
  refine ⟨.string r, ?_, .val _⟩
  have e1 := sbnd_run (P := P) s.size s.size .sliceAlen ha h2 hh
  have e2 := sbnd_run (P := P) 0 h .sliceB ha h1 hlh
  have hv := (ha.ev hx).val_inv
  have hs : (Instr.sliceAt T (.string s) (lo.map a.eval) (hi.map a.eval) none).run P W = .ok (.string r) W := by
    unfold Instr.sliceAt
    rw [Sem.run_bind, run_underlying hT.ax W]
    simp only [Result.andThen_ok]
    unfold Instr.slice
    rw [Sem.run_bind, run_underlying hT.ax W]
    simp only [Result.andThen_ok]
    unfold Instr.sliceBounds
    cases lo <;> cases hi <;> simp_all
  simp only [execOp, ho, hv, Option.map_none, Sem.run_bind, hs, Result.andThen_ok]
  rfl
end
end Go.Proofs.YtoonnnifelnaiaaGreatDoor.A

namespace Go.Proofs.YtoonnnifelnaiaaGreatDoor.By
open Go.RowKit L A Dk
set_option linter.unusedVariables false
set_option maxRecDepth 20000
set_option linter.unusedSimpArgs false
attribute [local irreducible] AW AQ AO
structure PreY (s w r : ByteArray) : Prop where
  a : w.size ≤ s.size
  b : s.extract 0 w.size = w
  c : s.extract w.size s.size = r
structure PreN (s w : ByteArray) : Prop where
  a : s.size < w.size ∨ (w.size ≤ s.size ∧ ((s.extract 0 w.size).toList == w.toList) = false)
instance (s w r : ByteArray) : Decidable (PreY s w r) := decidable_of_iff (w.size ≤ s.size ∧ s.extract 0 w.size = w ∧ s.extract w.size s.size = r) ⟨fun h => ⟨h.1, h.2.1, h.2.2⟩, fun h => ⟨h.a, h.b, h.c⟩⟩
instance (s w : ByteArray) : Decidable (PreN s w) := decidable_of_iff _ ⟨fun h => ⟨h⟩, fun h => h.a⟩
theorem hasPre_yes {s w r : ByteArray} (h : PreY s w r) : Sp Tryz.prog 168 [.val (.string s), .val (.string w)] [] (Is (.val (.bool true))) := by
  obtain ⟨h1, h2, h3⟩ := h
  have hq : ((s.extract 0 w.size).toList == w.toList) = true := by rw [h2]; exact beq_self_eq_true _
  refine Sp.enter Tryz.func168 rfl _ Tryz.ntmps168 rfl (fun w0 R0 => ?_)
  refine AW.seq ?_
  refine AW.region ?_
  refine AO.op (O.assign rfl rfl) rfl rfl rfl ?_
  refine AO.nil ?_
  refine AQ.thenN ?_
  refine AW.seq ?_
  refine AW.region ?_
  refine AO.op (O.move rfl rfl) rfl rfl rfl ?_
  refine AO.op (O.lenS rfl rfl) rfl rfl rfl ?_
  refine AO.op (O.move rfl rfl) rfl rfl rfl ?_
  refine AO.op (O.lenS rfl rfl) rfl rfl rfl ?_
  refine AO.op (O.geq rfl rfl rfl (by exact bTrue (by omega))) rfl rfl rfl ?_
  refine AO.op (O.move rfl rfl) rfl rfl rfl ?_
  refine AO.opG rfl rfl rfl (fun hp => O.move rfl rfl) ?_
  refine AO.opG rfl rfl rfl (fun hp => O.move rfl rfl) ?_
  refine AO.opG rfl rfl rfl (fun hp => OpW.force 12 rfl (by exact hp) (O.lenS rfl rfl)) ?_
  refine AO.opG rfl rfl rfl (fun hp => OpW.force 11 rfl (by exact hp) (OpW.force 13 rfl (by exact hp) (O.sliceS rfl rfl (by exact rfl) (by exact ⟨_, _, rfl, by rfl⟩) (by omega) (by omega) rfl))) ?_
  refine AO.opG rfl rfl rfl (fun hp => O.move rfl rfl) ?_
  refine AO.opG rfl rfl rfl (fun hp => OpW.force 14 rfl (by exact hp) (OpW.force 15 rfl (by exact hp) (O.eqlS rfl rfl rfl (by assumption)))) ?_
  refine AO.op (O.pickAnd rfl rfl rfl rfl (fun h => by exact h)) rfl rfl rfl ?_
  refine AO.op (O.assign rfl rfl) rfl rfl rfl ?_
  refine AO.nil ?_
  refine AQ.thenN ?_
  refine AW.ret ?_
  refine AQ.ret1 rfl rfl ⟨_, List.nil_sublist _, .nil⟩ (⟨rfl, rfl⟩)
theorem hasPre_no {s w : ByteArray} (h : PreN s w) : Sp Tryz.prog 168 [.val (.string s), .val (.string w)] [] (Is (.val (.bool false))) := by
  obtain ⟨h | ⟨h1, h2⟩⟩ := h
  · refine Sp.enter Tryz.func168 rfl _ Tryz.ntmps168 rfl (fun w0 R0 => ?_)
    refine AW.seq ?_
    refine AW.region ?_
    refine AO.op (O.assign rfl rfl) rfl rfl rfl ?_
    refine AO.nil ?_
    refine AQ.thenN ?_
    refine AW.seq ?_
    refine AW.region ?_
    refine AO.op (O.move rfl rfl) rfl rfl rfl ?_
    refine AO.op (O.lenS rfl rfl) rfl rfl rfl ?_
    refine AO.op (O.move rfl rfl) rfl rfl rfl ?_
    refine AO.op (O.lenS rfl rfl) rfl rfl rfl ?_
    refine AO.op (O.geq rfl rfl rfl (by exact bFalse (by omega))) rfl rfl rfl ?_
    refine AO.op (O.move rfl rfl) rfl rfl rfl ?_
    refine AO.opG rfl rfl rfl (fun hp => O.move rfl rfl) ?_
    refine AO.opG rfl rfl rfl (fun hp => O.move rfl rfl) ?_
    refine AO.opG rfl rfl rfl (fun hp => OpW.force 12 rfl (by exact hp) (O.lenS rfl rfl)) ?_
    refine AO.no rfl rfl rfl ?_
    refine AO.opG rfl rfl rfl (fun hp => O.move rfl rfl) ?_
    refine AO.no rfl rfl rfl ?_
    refine AO.op (O.pickF rfl rfl rfl) rfl rfl rfl ?_
    refine AO.op (O.assign rfl rfl) rfl rfl rfl ?_
    refine AO.nil ?_
    refine AQ.thenN ?_
    refine AW.ret ?_
    refine AQ.ret1 rfl rfl ⟨_, List.nil_sublist _, .nil⟩ (⟨rfl, rfl⟩)
  · refine Sp.enter Tryz.func168 rfl _ Tryz.ntmps168 rfl (fun w0 R0 => ?_)
    refine AW.seq ?_
    refine AW.region ?_
    refine AO.op (O.assign rfl rfl) rfl rfl rfl ?_
    refine AO.nil ?_
    refine AQ.thenN ?_
    refine AW.seq ?_
    refine AW.region ?_
    refine AO.op (O.move rfl rfl) rfl rfl rfl ?_
    refine AO.op (O.lenS rfl rfl) rfl rfl rfl ?_
    refine AO.op (O.move rfl rfl) rfl rfl rfl ?_
    refine AO.op (O.lenS rfl rfl) rfl rfl rfl ?_
    refine AO.op (O.geq rfl rfl rfl (by exact bTrue (by omega))) rfl rfl rfl ?_
    refine AO.op (O.move rfl rfl) rfl rfl rfl ?_
    refine AO.opG rfl rfl rfl (fun hp => O.move rfl rfl) ?_
    refine AO.opG rfl rfl rfl (fun hp => O.move rfl rfl) ?_
    refine AO.opG rfl rfl rfl (fun hp => OpW.force 12 rfl (by exact hp) (O.lenS rfl rfl)) ?_
    refine AO.opG rfl rfl rfl (fun hp => OpW.force 11 rfl (by exact hp) (OpW.force 13 rfl (by exact hp) (O.sliceS rfl rfl (by exact rfl) (by exact ⟨_, _, rfl, by rfl⟩) (by omega) (by omega) rfl))) ?_
    refine AO.opG rfl rfl rfl (fun hp => O.move rfl rfl) ?_
    refine AO.opG rfl rfl rfl (fun hp => OpW.force 14 rfl (by exact hp) (OpW.force 15 rfl (by exact hp) (O.eqlS rfl rfl rfl (by assumption)))) ?_
    refine AO.op (O.pickAnd rfl rfl rfl rfl (fun h => by exact h)) rfl rfl rfl ?_
    refine AO.op (O.assign rfl rfl) rfl rfl rfl ?_
    refine AO.nil ?_
    refine AQ.thenN ?_
    refine AW.ret ?_
    refine AQ.ret1 rfl rfl ⟨_, List.nil_sublist _, .nil⟩ (⟨rfl, rfl⟩)
theorem cutPre_yes {s w r : ByteArray} (h : PreY s w r) : Sp Tryz.prog 120 [.val (.string s), .val (.string w)] [] (Is (.tup [.val (.string r), .val (.bool true)])) := by
  have h1 := h.a
  have h2 := h.c
  have hi : Sp Tryz.prog 141 [.val (.string s), .val (.string w)] [] (Is (.tup [.val (.string r), .val (.bool true)])) := by
    refine Sp.enter Tryz.func141 rfl _ Tryz.ntmps141 rfl (fun w0 R0 => ?_)
    refine AW.seq ?_
    refine AW.region ?_
    refine AO.op (O.assign rfl rfl) rfl rfl rfl ?_
    refine AO.op (O.assign rfl rfl) rfl rfl rfl ?_
    refine AO.nil ?_
    refine AQ.thenN ?_
    refine AW.seq ?_
    refine AW.seq ?_
    refine AW.region ?_
    refine AO.op (O.move rfl rfl) rfl rfl rfl ?_
    refine AO.op (O.move rfl rfl) rfl rfl rfl ?_
    refine AO.op (O.call rfl Tryz.func168 rfl rfl rfl (hasPre_yes ‹_›)) rfl rfl rfl ?_
    refine AO.op (O.not rfl rfl (by rfl)) rfl rfl rfl ?_
    refine AO.nil ?_
    refine AQ.thenN ?_
    refine AW.condF rfl ?_
    refine AW.skip ?_
    refine AQ.thenN ?_
    refine AW.seq ?_
    refine AW.region ?_
    refine AO.op (O.move rfl rfl) rfl rfl rfl ?_
    refine AO.op (O.move rfl rfl) rfl rfl rfl ?_
    refine AO.op (O.lenS rfl rfl) rfl rfl rfl ?_
    refine AO.op (O.sliceS rfl rfl (by exact ⟨_, _, rfl, by rfl⟩) (by exact rfl) (by omega) (by omega) (by assumption)) rfl rfl rfl ?_
    refine AO.op (O.assign rfl rfl) rfl rfl rfl ?_
    refine AO.op (O.assign rfl rfl) rfl rfl rfl ?_
    refine AO.nil ?_
    refine AQ.thenN ?_
    refine AW.ret ?_
    refine AQ.ret2 rfl rfl rfl ⟨_, List.nil_sublist _, .nil⟩ (⟨rfl, rfl⟩)
  refine Sp.enter Tryz.func120 rfl _ Tryz.ntmps120 rfl (fun w0 R0 => ?_)
  refine AW.seq ?_
  refine AW.region ?_
  refine AO.op (O.assign rfl rfl) rfl rfl rfl ?_
  refine AO.op (O.assign rfl rfl) rfl rfl rfl ?_
  refine AO.nil ?_
  refine AQ.thenN ?_
  refine AW.seq ?_
  refine AW.region ?_
  refine AO.op (O.move rfl rfl) rfl rfl rfl ?_
  refine AO.op (O.move rfl rfl) rfl rfl rfl ?_
  refine AO.op (O.call rfl Tryz.func141 rfl rfl rfl (hi)) rfl rfl rfl ?_
  refine AO.op (O.extract rfl rfl rfl) rfl rfl rfl ?_
  refine AO.op (O.extract rfl rfl rfl) rfl rfl rfl ?_
  refine AO.op (O.assign rfl rfl) rfl rfl rfl ?_
  refine AO.op (O.assign rfl rfl) rfl rfl rfl ?_
  refine AO.nil ?_
  refine AQ.thenN ?_
  refine AW.ret ?_
  refine AQ.ret2 rfl rfl rfl ⟨_, List.nil_sublist _, .nil⟩ (⟨rfl, rfl⟩)
theorem cutPre_no {s w : ByteArray} (h : PreN s w) : Sp Tryz.prog 120 [.val (.string s), .val (.string w)] [] (Is (.tup [.val (.string s), .val (.bool false)])) := by
  have hi : Sp Tryz.prog 141 [.val (.string s), .val (.string w)] [] (Is (.tup [.val (.string s), .val (.bool false)])) := by
    refine Sp.enter Tryz.func141 rfl _ Tryz.ntmps141 rfl (fun w0 R0 => ?_)
    refine AW.seq ?_
    refine AW.region ?_
    refine AO.op (O.assign rfl rfl) rfl rfl rfl ?_
    refine AO.op (O.assign rfl rfl) rfl rfl rfl ?_
    refine AO.nil ?_
    refine AQ.thenN ?_
    refine AW.seq ?_
    refine AW.seq ?_
    refine AW.region ?_
    refine AO.op (O.move rfl rfl) rfl rfl rfl ?_
    refine AO.op (O.move rfl rfl) rfl rfl rfl ?_
    refine AO.op (O.call rfl Tryz.func168 rfl rfl rfl (hasPre_no ‹_›)) rfl rfl rfl ?_
    refine AO.op (O.not rfl rfl (by rfl)) rfl rfl rfl ?_
    refine AO.nil ?_
    refine AQ.thenN ?_
    refine AW.condT rfl ?_
    refine AW.seq ?_
    refine AW.region ?_
    refine AO.op (O.move rfl rfl) rfl rfl rfl ?_
    refine AO.op (O.assign rfl rfl) rfl rfl rfl ?_
    refine AO.op (O.assign rfl rfl) rfl rfl rfl ?_
    refine AO.nil ?_
    refine AQ.thenN ?_
    refine AW.ret ?_
    refine AQ.thenR ?_
    refine AQ.ret2 rfl rfl rfl ⟨_, List.nil_sublist _, .nil⟩ (⟨rfl, rfl⟩)
  refine Sp.enter Tryz.func120 rfl _ Tryz.ntmps120 rfl (fun w0 R0 => ?_)
  refine AW.seq ?_
  refine AW.region ?_
  refine AO.op (O.assign rfl rfl) rfl rfl rfl ?_
  refine AO.op (O.assign rfl rfl) rfl rfl rfl ?_
  refine AO.nil ?_
  refine AQ.thenN ?_
  refine AW.seq ?_
  refine AW.region ?_
  refine AO.op (O.move rfl rfl) rfl rfl rfl ?_
  refine AO.op (O.move rfl rfl) rfl rfl rfl ?_
  refine AO.op (O.call rfl Tryz.func141 rfl rfl rfl (hi)) rfl rfl rfl ?_
  refine AO.op (O.extract rfl rfl rfl) rfl rfl rfl ?_
  refine AO.op (O.extract rfl rfl rfl) rfl rfl rfl ?_
  refine AO.op (O.assign rfl rfl) rfl rfl rfl ?_
  refine AO.op (O.assign rfl rfl) rfl rfl rfl ?_
  refine AO.nil ?_
  refine AQ.thenN ?_
  refine AW.ret ?_
  refine AQ.ret2 rfl rfl rfl ⟨_, List.nil_sublist _, .nil⟩ (⟨rfl, rfl⟩)
abbrev parsB (B : Nat) (s : ByteArray) (n : Int) (bad : Bool) : HE := .blk B 151 3 [.val (.string s), .val (.int .i64 n), .val (.bool bad)]
theorem skip_yes {B : Nat} {s w : ByteArray} (r : ByteArray) {n : Int} {bad : Bool} (h : PreY s w r) : Sp Tryz.prog 99 [ptr B, .val (.string w)] [parsB B s n bad] (IsM (.val (.bool true)) (parsB B r n bad)) := by
  refine Sp.enter Tryz.func99 rfl _ Tryz.ntmps99 rfl (fun w0 R0 => ?_)
  refine AW.seq ?_
  refine AW.region ?_
  refine AO.op (O.assign rfl rfl) rfl rfl rfl ?_
  refine AO.nil ?_
  refine AQ.thenN ?_
  refine AW.seq ?_
  refine AW.region ?_
  refine AO.op (O.move rfl rfl) rfl rfl rfl ?_
  refine AO.op (O.nilCheck rfl rfl) rfl rfl rfl ?_
  refine AO.op (O.fieldAddr rfl rfl) rfl rfl rfl ?_
  refine AO.op (O.load rfl rfl (by repeat (exact List.Mem.head _)) (by rfl)) rfl rfl rfl ?_
  refine AO.op (O.move rfl rfl) rfl rfl rfl ?_
  refine AO.op (O.call rfl Tryz.func120 rfl rfl rfl (cutPre_yes ‹_›)) rfl rfl rfl ?_
  refine AO.op (O.move rfl rfl) rfl rfl rfl ?_
  refine AO.op (O.extract rfl rfl rfl) rfl rfl rfl ?_
  refine AO.op (O.extract rfl rfl rfl) rfl rfl rfl ?_
  refine AO.op (O.assign rfl rfl) rfl rfl rfl ?_
  refine AO.op (O.assign rfl rfl) rfl rfl rfl ?_
  refine AO.nil ?_
  refine AQ.thenN ?_
  refine AW.seq ?_
  refine AW.seq ?_
  refine AW.region ?_
  refine AO.op (O.move rfl rfl) rfl rfl rfl ?_
  refine AO.nil ?_
  refine AQ.thenN ?_
  refine AW.condT rfl ?_
  refine AW.region ?_
  refine AO.op (O.move rfl rfl) rfl rfl rfl ?_
  refine AO.op (O.move rfl rfl) rfl rfl rfl ?_
  refine AO.op (O.nilCheck rfl rfl) rfl rfl rfl ?_
  refine AO.op (O.fieldAddr rfl rfl) rfl rfl rfl ?_
  refine AO.store (i := 0) rfl rfl rfl rfl rfl rfl (by rfl) (by rfl) (by rfl) (by rfl) (by rfl) ?_
  refine AO.nil ?_
  refine AQ.thenN ?_
  refine AW.seq ?_
  refine AW.region ?_
  refine AO.op (O.move rfl rfl) rfl rfl rfl ?_
  refine AO.op (O.assign rfl rfl) rfl rfl rfl ?_
  refine AO.nil ?_
  refine AQ.thenN ?_
  refine AW.ret ?_
  refine AQ.ret1 rfl rfl ⟨_, by repeat (first | exact List.Sublist.slnil | refine List.Sublist.cons_cons _ ?_), List.Perm.refl _⟩ (⟨rfl, rfl⟩)
theorem skip_no {B : Nat} {s w : ByteArray} {n : Int} {bad : Bool} (h : PreN s w) : Sp Tryz.prog 99 [ptr B, .val (.string w)] [parsB B s n bad] (IsM (.val (.bool false)) (parsB B s n bad)) := by
  refine Sp.enter Tryz.func99 rfl _ Tryz.ntmps99 rfl (fun w0 R0 => ?_)
  refine AW.seq ?_
  refine AW.region ?_
  refine AO.op (O.assign rfl rfl) rfl rfl rfl ?_
  refine AO.nil ?_
  refine AQ.thenN ?_
  refine AW.seq ?_
  refine AW.region ?_
  refine AO.op (O.move rfl rfl) rfl rfl rfl ?_
  refine AO.op (O.nilCheck rfl rfl) rfl rfl rfl ?_
  refine AO.op (O.fieldAddr rfl rfl) rfl rfl rfl ?_
  refine AO.op (O.load rfl rfl (by repeat (exact List.Mem.head _)) (by rfl)) rfl rfl rfl ?_
  refine AO.op (O.move rfl rfl) rfl rfl rfl ?_
  refine AO.op (O.call rfl Tryz.func120 rfl rfl rfl (cutPre_no ‹_›)) rfl rfl rfl ?_
  refine AO.op (O.move rfl rfl) rfl rfl rfl ?_
  refine AO.op (O.extract rfl rfl rfl) rfl rfl rfl ?_
  refine AO.op (O.extract rfl rfl rfl) rfl rfl rfl ?_
  refine AO.op (O.assign rfl rfl) rfl rfl rfl ?_
  refine AO.op (O.assign rfl rfl) rfl rfl rfl ?_
  refine AO.nil ?_
  refine AQ.thenN ?_
  refine AW.seq ?_
  refine AW.seq ?_
  refine AW.region ?_
  refine AO.op (O.move rfl rfl) rfl rfl rfl ?_
  refine AO.nil ?_
  refine AQ.thenN ?_
  refine AW.condF rfl ?_
  refine AW.skip ?_
  refine AQ.thenN ?_
  refine AW.seq ?_
  refine AW.region ?_
  refine AO.op (O.move rfl rfl) rfl rfl rfl ?_
  refine AO.op (O.assign rfl rfl) rfl rfl rfl ?_
  refine AO.nil ?_
  refine AQ.thenN ?_
  refine AW.ret ?_
  refine AQ.ret1 rfl rfl ⟨_, by repeat (first | exact List.Sublist.slnil | refine List.Sublist.cons_cons _ ?_), List.Perm.refl _⟩ (⟨rfl, rfl⟩)
/-! ### Numbers of one digit -/
def dig (z : Int) : ByteArray := ⟨#[u8 (48 + z)]⟩
theorem small_fn (z : Int) (hz : 0 ≤ z ∧ z < 10) : Sp Tryz.prog 137 [.val (.int .i64 z)] [] (Is (.val (.string (dig z)))) := by
  have hc : z = 0 ∨ z = 1 ∨ z = 2 ∨ z = 3 ∨ z = 4 ∨ z = 5 ∨ z = 6 ∨ z = 7 ∨ z = 8 ∨ z = 9 := by omega
  have hb : ∀ w : ByteArray, w = ⟨#[48, 49, 50, 51, 52, 53, 54, 55, 56, 57, 97, 98, 99, 100, 101, 102, 103, 104, 105, 106, 107, 108, 109, 110, 111, 112, 113, 114, 115, 116, 117, 118, 119, 120, 121, 122]⟩ → (z + 1).toNat ≤ w.size := by
    rintro w rfl
    show _ ≤ 36
    omega
  have he : ∀ w : ByteArray, w = ⟨#[48, 49, 50, 51, 52, 53, 54, 55, 56, 57, 97, 98, 99, 100, 101, 102, 103, 104, 105, 106, 107, 108, 109, 110, 111, 112, 113, 114, 115, 116, 117, 118, 119, 120, 121, 122]⟩ → w.extract z.toNat (z + 1).toNat = dig z := by
    rintro w rfl
    rcases hc with rfl | rfl | rfl | rfl | rfl | rfl | rfl | rfl | rfl | rfl <;> decide +kernel
  refine Sp.enter Tryz.func137 rfl _ Tryz.ntmps137 rfl (fun w0 R0 => ?_)
  refine AW.seq ?_
  refine AW.region ?_
  refine AO.op (O.assign rfl rfl) rfl rfl rfl ?_
  refine AO.nil ?_
  refine AQ.thenN ?_
  refine AW.seq ?_
  refine AW.seq ?_
  refine AW.region ?_
  refine AO.op (O.move rfl rfl) rfl rfl rfl ?_
  refine AO.op (O.lss rfl rfl rfl (by exact bTrue (by omega))) rfl rfl rfl ?_
  refine AO.nil ?_
  refine AQ.thenN ?_
  refine AW.condT rfl ?_
  refine AW.seq ?_
  refine AW.region ?_
  refine AO.op (O.move rfl rfl) rfl rfl rfl ?_
  refine AO.op (O.move rfl rfl) rfl rfl rfl ?_
  refine AO.op (O.add rfl rfl rfl (by exact wI64 (by omega))) rfl rfl rfl ?_
  refine AO.op (O.sliceS rfl rfl (by exact ⟨_, _, rfl, by omega⟩) (by exact ⟨_, _, rfl, by omega⟩) (by omega) (hb _ rfl) (he _ rfl)) rfl rfl rfl ?_
  refine AO.op (O.assign rfl rfl) rfl rfl rfl ?_
  refine AO.nil ?_
  refine AQ.thenN ?_
  refine AW.ret ?_
  refine AQ.thenR ?_
  refine AQ.ret1 rfl rfl ⟨_, List.nil_sublist _, .nil⟩ (⟨rfl, rfl⟩)
end Go.Proofs.YtoonnnifelnaiaaGreatDoor.By

namespace Go.Proofs.YtoonnnifelnaiaaGreatDoor.By
open Go.RowKit L A Dk
set_option linter.unusedVariables false
set_option maxRecDepth 20000
set_option linter.unusedSimpArgs false
attribute [local irreducible] AW AQ AO
/-- A row of bytes as yield. -/
def RowB (T : Nat) (l : List UInt8) : AV → List HE → Prop := fun r Hn => ∃ V : Value, V.oneCell' = true ∧ r = .val V ∧ Hn = [.row V T 1 l.length (bytesA l)]
theorem bytesA_snoc (l : List UInt8) (b : UInt8) : bytesA (l ++ [b]) = bytesA l ++ [.val (.int .u8 (b.toNat : Int))] := by simp [bytesA]
theorem retRB {V : Value} {T n : Nat} {l : List UInt8} {xs : List AV} (hV : V.oneCell' = true) (hn : n = l.length) (hx : xs = bytesA l) : RowB T l (.val V) [.row V T 1 n xs] := by
  subst hn; subst hx; exact ⟨V, hV, rfl, rfl⟩
theorem app1_fn (V : Value) (l : List UInt8) (z : Int) (hl : l.length ≤ 1000) (hz : 0 ≤ z ∧ z < 10) : Sp Tryz.prog 119 [.val V, .val (.int .u64 z), .val (.int .i64 10)] [.row V 5 1 l.length (bytesA l)] (RowB 5 (l ++ [u8 (48 + z)])) := by
  have hds : (dig z).size = 1 := rfl
  have e1 : l.length + (dig z).size = (l ++ [u8 (48 + z)]).length := by rw [List.length_append]; rfl
  have e2 : bytesA l ++ List.map AV.val (byteCells (dig z)) = bytesA (l ++ [u8 (48 + z)]) := by rw [bytesA_snoc]; rfl
  refine Sp.enter Tryz.func119 rfl _ Tryz.ntmps119 rfl (fun w0 R0 => ?_)
  refine AW.seq ?_
  refine AW.region ?_
  refine AO.op (O.assign rfl rfl) rfl rfl rfl ?_
  refine AO.nil ?_
  refine AQ.thenN ?_
  refine AW.seq ?_
  refine AW.seq ?_
  refine AW.region ?_
  refine AO.op (O.move rfl rfl) rfl rfl rfl ?_
  refine AO.op (O.eql rfl rfl rfl (by exact beq_iff_eq.2 (by omega))) rfl rfl rfl ?_
  refine AO.nil ?_
  refine AQ.thenN ?_
  refine AW.condT rfl ?_
  refine AW.seq ?_
  refine AW.seq ?_
  refine AW.region ?_
  refine AO.op (O.move rfl rfl) rfl rfl rfl ?_
  refine AO.op (O.lss rfl rfl rfl (by exact bTrue (by omega))) rfl rfl rfl ?_
  refine AO.nil ?_
  refine AQ.thenN ?_
  refine AW.condT rfl ?_
  refine AW.seq ?_
  refine AW.region ?_
  refine AO.op (O.move rfl rfl) rfl rfl rfl ?_
  refine AO.op (O.move rfl rfl) rfl rfl rfl ?_
  refine AO.op (O.conv rfl rfl (by exact wI64 (by omega))) rfl rfl rfl ?_
  refine AO.op (O.call rfl Tryz.func137 rfl rfl rfl (small_fn z ⟨by omega, by omega⟩)) rfl rfl rfl ?_
  (refine AO.append' (i := 0) rfl rfl rfl rfl (by rfl) (by rfl) rfl rfl rfl (by exact SrcA.str TyD.ax (by rfl)) (by rfl) (by (unfold maxLen; omega)) (by omega) (by (dsimp only [List.set, List.cons_append, List.nil_append, List.take, List.drop]; done)) (fun _ => by (dsimp only [List.set]; done)) ?_)
  intro V1 hV1
  refine AO.op (O.assign rfl rfl) rfl rfl rfl ?_
  refine AO.nil ?_
  refine AQ.thenN ?_
  refine AW.ret ?_
  refine AQ.thenR ?_
  refine AQ.thenR ?_
  refine AQ.ret1 rfl rfl ⟨_, by repeat (first | exact List.Sublist.slnil | refine List.Sublist.cons_cons _ ?_), List.Perm.refl _⟩ (retRB hV1 e1 e2)
theorem app_fn (V : Value) (l : List UInt8) (z : Int) (hl : l.length ≤ 1000) (hz : 0 ≤ z ∧ z < 10) : Sp Tryz.prog 96 [.val V, .val (.int .u64 z), .val (.int .i64 10)] [.row V 5 1 l.length (bytesA l)] (RowB 5 (l ++ [u8 (48 + z)])) := by
  refine Sp.enter Tryz.func96 rfl _ Tryz.ntmps96 rfl (fun w0 R0 => ?_)
  refine AW.seq ?_
  refine AW.region ?_
  refine AO.op (O.assign rfl rfl) rfl rfl rfl ?_
  refine AO.nil ?_
  refine AQ.thenN ?_
  refine AW.seq ?_
  refine AW.region ?_
  refine AO.op (O.move rfl rfl) rfl rfl rfl ?_
  refine AO.op (O.move rfl rfl) rfl rfl rfl ?_
  refine AO.op (O.move rfl rfl) rfl rfl rfl ?_
  refine AO.callMG 0 rfl rfl Tryz.func119 rfl rfl rfl rfl rfl rfl (app1_fn V l z hl hz) ?_
  rintro _ _ ⟨V1, hV1, rfl, rfl⟩
  dsimp only [List.cons_append, List.nil_append, List.eraseIdx]
  refine AO.op (O.assign rfl rfl) rfl rfl rfl ?_
  refine AO.nil ?_
  refine AQ.thenN ?_
  refine AW.ret ?_
  refine AQ.ret1 rfl rfl ⟨_, by repeat (first | exact List.Sublist.slnil | refine List.Sublist.cons_cons _ ?_), List.Perm.refl _⟩ (⟨V1, hV1, rfl, rfl⟩)
/-! ### The text 1 -/
theorem parse1_fn : Sp Tryz.prog 124 [.val (.string ⟨#[49]⟩), .val (.int .i64 10), .val (.int .i64 64)] [] (Is (.tup [.val (.int .u64 1), .val .nilIface])) := by
  have q1 : ((⟨#[49]⟩ : ByteArray).toList == (⟨#[]⟩ : ByteArray).toList) = false := by decide +kernel
  have hlen : ([49] : List UInt8).length = 1 := rfl
  refine Sp.enter Tryz.func124 rfl _ Tryz.ntmps124 rfl (fun w0 R0 => ?_)
  refine AW.seq ?_
  refine AW.region ?_
  refine AO.op (O.assign rfl rfl) rfl rfl rfl ?_
  refine AO.op (O.assign rfl rfl) rfl rfl rfl ?_
  refine AO.nil ?_
  refine AQ.thenN ?_
  refine AW.seq ?_
  refine AW.seq ?_
  refine AW.region ?_
  refine AO.op (O.move rfl rfl) rfl rfl rfl ?_
  refine AO.op (O.eqlS rfl rfl rfl (by assumption)) rfl rfl rfl ?_
  refine AO.nil ?_
  refine AQ.thenN ?_
  refine AW.condF rfl ?_
  refine AW.skip ?_
  refine AQ.thenN ?_
  refine AW.seq ?_
  refine AW.region ?_
  refine AO.op (O.move rfl rfl) rfl rfl rfl ?_
  refine AO.op (O.eql rfl rfl rfl (by exact beq_eq_false_iff_ne.2 (by omega))) rfl rfl rfl ?_
  refine AO.op (O.assign rfl rfl) rfl rfl rfl ?_
  refine AO.nil ?_
  refine AQ.thenN ?_
  refine AW.seq ?_
  refine AW.region ?_
  refine AO.op (O.move rfl rfl) rfl rfl rfl ?_
  refine AO.op (O.assign rfl rfl) rfl rfl rfl ?_
  refine AO.nil ?_
  refine AQ.thenN ?_
  refine AW.seq ?_
  refine AW.block ?_
  refine AW.seq ?_
  refine AW.region ?_
  refine AO.op (O.move rfl rfl) rfl rfl rfl ?_
  refine AO.op (O.leq rfl rfl rfl (by exact bTrue (by omega))) rfl rfl rfl ?_
  refine AO.op (O.move rfl rfl) rfl rfl rfl ?_
  refine AO.opG rfl rfl rfl (fun hp => O.move rfl rfl) ?_
  refine AO.opG rfl rfl rfl (fun hp => OpW.force 29 rfl (by exact hp) (O.leq rfl rfl rfl (by exact bTrue (by omega)))) ?_
  refine AO.op (O.pickAnd rfl rfl rfl rfl (fun h => by exact h)) rfl rfl rfl ?_
  refine AO.op (O.assign rfl rfl) rfl rfl rfl ?_
  refine AO.nil ?_
  refine AQ.thenN ?_
  refine AW.condT rfl ?_
  refine AW.skip ?_
  refine AQ.blockN ?_
  refine AQ.thenN ?_
  refine AW.seq ?_
  refine AW.seq ?_
  refine AW.region ?_
  refine AO.op (O.move rfl rfl) rfl rfl rfl ?_
  refine AO.op (O.eql rfl rfl rfl (by exact beq_eq_false_iff_ne.2 (by omega))) rfl rfl rfl ?_
  refine AO.nil ?_
  refine AQ.thenN ?_
  refine AW.condF rfl ?_
  refine AW.seq ?_
  refine AW.region ?_
  refine AO.op (O.move rfl rfl) rfl rfl rfl ?_
  refine AO.op (O.lss rfl rfl rfl (by exact bFalse (by omega))) rfl rfl rfl ?_
  refine AO.op (O.move rfl rfl) rfl rfl rfl ?_
  refine AO.opG rfl rfl rfl (fun hp => O.move rfl rfl) ?_
  refine AO.opG rfl rfl rfl (fun hp => OpW.force 81 rfl (by exact hp) (O.gtr rfl rfl rfl (by exact bFalse (by omega)))) ?_
  refine AO.op (O.pickOr rfl rfl rfl rfl (fun h => by exact congrArg (fun b => !b) h)) rfl rfl rfl ?_
  refine AO.nil ?_
  refine AQ.thenN ?_
  refine AW.condF rfl ?_
  refine AW.skip ?_
  refine AQ.thenN ?_
  refine AW.seq ?_
  refine AW.region ?_
  refine AO.op (O.assign rfl rfl) rfl rfl rfl ?_
  refine AO.nil ?_
  refine AQ.thenN ?_
  refine AW.seq ?_
  refine AW.seq ?_
  refine AW.region ?_
  refine AO.op (O.move rfl rfl) rfl rfl rfl ?_
  refine AO.nil ?_
  refine AQ.thenN ?_
  refine AW.block ?_
  refine AW.seq ?_
  refine AW.region ?_
  refine AO.op (O.eql rfl rfl rfl (by exact beq_iff_eq.2 (by omega))) rfl rfl rfl ?_
  refine AO.op (O.assign rfl rfl) rfl rfl rfl ?_
  refine AO.nil ?_
  refine AQ.thenN ?_
  refine AW.condT rfl ?_
  refine AW.region ?_
  refine AO.op (O.assign rfl rfl) rfl rfl rfl ?_
  refine AO.nil ?_
  refine AQ.blockN ?_
  refine AQ.thenN ?_
  refine AW.seq ?_
  refine AW.region ?_
  refine AO.op (O.move rfl rfl) rfl rfl rfl ?_
  refine AO.op (O.conv rfl rfl (by exact wU64 (by omega))) rfl rfl rfl ?_
  refine AO.op (O.shl rfl rfl rfl (by omega) rfl) rfl rfl rfl ?_
  refine AO.op (O.sub rfl rfl rfl (by rfl)) rfl rfl rfl ?_
  refine AO.op (O.assign rfl rfl) rfl rfl rfl ?_
  refine AO.nil ?_
  refine AQ.thenN ?_
  refine AW.seq ?_
  refine AW.region ?_
  refine AO.op (O.assign rfl rfl) rfl rfl rfl ?_
  refine AO.nil ?_
  refine AQ.thenN ?_
  refine AW.seq ?_
  refine AW.region ?_
  refine AO.op (O.assign rfl rfl) rfl rfl rfl ?_
  refine AO.nil ?_
  refine AQ.thenN ?_
  refine AW.seq ?_
  refine AW.seq ?_
  refine AW.region ?_
  refine AO.op (O.move rfl rfl) rfl rfl rfl ?_
  refine AO.op (O.toBytes rfl rfl rfl (by (unfold maxLen; simp; done))) rfl rfl rfl ?_
  refine AO.op (O.lenR rfl rfl) rfl rfl rfl ?_
  refine AO.op (O.move rfl rfl) rfl rfl rfl ?_
  refine AO.nil ?_
  refine AQ.thenN ?_
  refine AW.block ?_
  refine AW.loopK [(1, _), (8, _), (9, _), (10, _), (11, _), (99, _), (100, _)] (fun nn E H => ∃ (k : Nat), (k ≤ 1) ∧ nn = 1 - k ∧ E = [(12, .val (.bool false)), (13, .val (.int .u64 (k : Int))), (101, .val (.int .i64 (k : Int)))] ∧ H = []) _ (⟨0, by omega, rfl, rfl, rfl⟩) (by repeat (first | exact envNil | refine envCons rfl ?_)) (by repeat (first | exact envNil | refine envCons rfl ?_)) (by repeat (exact subPnil)) ?_
  rintro nn E H ⟨k, hk, rfl, rfl, rfl⟩
  dsimp only [List.cons_append, List.nil_append]
  refine AW.seq ?_
  refine AW.region ?_
  refine AO.op (O.lss rfl rfl rfl (by rfl)) rfl rfl rfl ?_
  refine AO.nil ?_
  refine AQ.thenN ?_
  refine AW.seq ?_
  refine AW.split rfl (fun hlt => ?_) (fun hlt => ?_) <;> (try simp only [decide_eq_true_eq, decide_eq_false_iff_not, beq_iff_eq, beq_eq_false_iff_ne, bne_iff_ne, bne_eq_false_iff_eq, Bool.not_eq_true', Bool.not_eq_false', Bool.not_eq_true, Bool.not_eq_false, ne_eq, Int.not_lt, Int.not_le, Bool.and_eq_true, Bool.or_eq_true, Bool.or_eq_false_iff, Bool.and_eq_false_imp, strOf_toList, Decidable.not_not] at hlt)
  · skip
    obtain rfl : k = 0 := by omega
    refine AW.skip ?_
    refine AQ.thenN ?_
    refine AW.seq ?_
    refine AW.block ?_
    refine AW.seq ?_
    refine AW.region ?_
    refine AO.op (O.idxR rfl rfl rfl ⟨(by omega), (by omega)⟩) rfl rfl rfl ?_
    refine AO.op (O.loadR rfl rfl (by rfl)) rfl rfl rfl ?_
    refine AO.op (O.assign rfl rfl) rfl rfl rfl ?_
    refine AO.nil ?_
    refine AQ.thenN ?_
    refine AW.seq ?_
    refine AW.region ?_
    refine AO.op (O.assign rfl rfl) rfl rfl rfl ?_
    refine AO.nil ?_
    refine AQ.thenN ?_
    refine AW.seq ?_
    refine AW.block ?_
    refine AW.seq ?_
    refine AW.region ?_
    refine AO.op (O.move rfl rfl) rfl rfl rfl ?_
    refine AO.op (O.eql rfl rfl rfl (by rfl)) rfl rfl rfl ?_
    refine AO.op (O.move rfl rfl) rfl rfl rfl ?_
    refine AO.opG rfl rfl rfl (fun hp => O.move rfl rfl) ?_
    refine AO.op (O.pickAnd rfl rfl rfl rfl (fun h => by exact h)) rfl rfl rfl ?_
    refine AO.op (O.assign rfl rfl) rfl rfl rfl ?_
    refine AO.nil ?_
    refine AQ.thenN ?_
    refine AW.condF rfl ?_
    refine AW.seq ?_
    refine AW.region ?_
    refine AO.op (O.move rfl rfl) rfl rfl rfl ?_
    refine AO.op (O.leq rfl rfl rfl (by rfl)) rfl rfl rfl ?_
    refine AO.op (O.move rfl rfl) rfl rfl rfl ?_
    refine AO.opG rfl rfl rfl (fun hp => O.move rfl rfl) ?_
    refine AO.opG rfl rfl rfl (fun hp => OpW.force 116 rfl (by exact hp) (O.leq rfl rfl rfl (by assumption))) ?_
    refine AO.op (O.pickAnd rfl rfl rfl rfl (fun h => by exact h)) rfl rfl rfl ?_
    refine AO.op (O.assign rfl rfl) rfl rfl rfl ?_
    refine AO.nil ?_
    refine AQ.thenN ?_
    refine AW.condT rfl ?_
    refine AW.region ?_
    refine AO.op (O.move rfl rfl) rfl rfl rfl ?_
    refine AO.op (O.sub rfl rfl rfl (by rfl)) rfl rfl rfl ?_
    refine AO.op (O.assign rfl rfl) rfl rfl rfl ?_
    refine AO.nil ?_
    refine AQ.blockN ?_
    refine AQ.thenN ?_
    refine AW.seq ?_
    refine AW.seq ?_
    refine AW.region ?_
    refine AO.op (O.move rfl rfl) rfl rfl rfl ?_
    refine AO.op (O.move rfl rfl) rfl rfl rfl ?_
    refine AO.op (O.conv rfl rfl (by exact wU8 (by omega))) rfl rfl rfl ?_
    refine AO.op (O.geq rfl rfl rfl (by rfl)) rfl rfl rfl ?_
    refine AO.nil ?_
    refine AQ.thenN ?_
    refine AW.condF rfl ?_
    refine AW.skip ?_
    refine AQ.thenN ?_
    refine AW.seq ?_
    refine AW.seq ?_
    refine AW.region ?_
    refine AO.op (O.move rfl rfl) rfl rfl rfl ?_
    refine AO.op (O.move rfl rfl) rfl rfl rfl ?_
    refine AO.op (O.geq rfl rfl rfl (by exact bFalse (by omega))) rfl rfl rfl ?_
    refine AO.nil ?_
    refine AQ.thenN ?_
    refine AW.condF rfl ?_
    refine AW.skip ?_
    refine AQ.thenN ?_
    refine AW.seq ?_
    refine AW.region ?_
    refine AO.op (O.move rfl rfl) rfl rfl rfl ?_
    refine AO.op (O.move rfl rfl) rfl rfl rfl ?_
    refine AO.op (O.conv rfl rfl (by exact wU64 (by omega))) rfl rfl rfl ?_
    refine AO.op (O.mul rfl rfl rfl (by exact wU64 (by omega))) rfl rfl rfl ?_
    refine AO.op (O.assign rfl rfl) rfl rfl rfl ?_
    refine AO.nil ?_
    refine AQ.thenN ?_
    refine AW.seq ?_
    refine AW.region ?_
    refine AO.op (O.move rfl rfl) rfl rfl rfl ?_
    refine AO.op (O.move rfl rfl) rfl rfl rfl ?_
    refine AO.op (O.conv rfl rfl (by rfl)) rfl rfl rfl ?_
    refine AO.op (O.add rfl rfl rfl (by rfl)) rfl rfl rfl ?_
    refine AO.op (O.assign rfl rfl) rfl rfl rfl ?_
    refine AO.nil ?_
    refine AQ.thenN ?_
    refine AW.seq ?_
    refine AW.seq ?_
    refine AW.region ?_
    refine AO.op (O.move rfl rfl) rfl rfl rfl ?_
    refine AO.op (O.move rfl rfl) rfl rfl rfl ?_
    refine AO.op (O.lss rfl rfl rfl (by rfl)) rfl rfl rfl ?_
    refine AO.op (O.move rfl rfl) rfl rfl rfl ?_
    refine AO.opG rfl rfl rfl (fun hp => O.move rfl rfl) ?_
    refine AO.opG rfl rfl rfl (fun hp => O.move rfl rfl) ?_
    refine AO.opG rfl rfl rfl (fun hp => OpW.force 156 rfl (by exact hp) (OpW.force 157 rfl (by exact hp) (O.gtr rfl rfl rfl (by rfl)))) ?_
    refine AO.op (O.pickOr rfl rfl rfl rfl (fun h => by exact congrArg (fun b => !b) h)) rfl rfl rfl ?_
    refine AO.nil ?_
    refine AQ.thenN ?_
    refine AW.condF rfl ?_
    refine AW.skip ?_
    refine AQ.thenN ?_
    refine AW.region ?_
    refine AO.op (O.move rfl rfl) rfl rfl rfl ?_
    refine AO.op (O.assign rfl rfl) rfl rfl rfl ?_
    refine AO.nil ?_
    refine AQ.blockN ?_
    refine AQ.thenN ?_
    refine AW.region ?_
    refine AO.op (O.add rfl rfl rfl (by exact wI64 (by omega))) rfl rfl rfl ?_
    refine AO.op (O.move rfl rfl) rfl rfl rfl ?_
    refine AO.nil ?_
    refine AQ.loopKN _ _ _ (by omega) (⟨1, by omega, rfl, rfl, rfl⟩) (by repeat (first | exact envNil | refine envCons rfl ?_)) (by repeat (first | exact envNil | refine envCons rfl ?_)) (by repeat (exact subPnil))
  · skip
    obtain rfl : k = 1 := by omega
    refine AW.exit ?_
    refine AQ.thenX ?_
    refine AQ.loopX ?_
    refine AQ.blockX rfl ?_
    refine AQ.thenN ?_
    refine AW.seq ?_
    refine AW.seq ?_
    refine AW.region ?_
    refine AO.op (O.move rfl rfl) rfl rfl rfl ?_
    refine AO.op (O.move rfl rfl) rfl rfl rfl ?_
    refine AO.opG rfl rfl rfl (fun hp => O.move rfl rfl) ?_
    refine AO.no rfl rfl rfl ?_
    refine AO.no rfl rfl rfl ?_
    refine AO.op (O.pickF rfl rfl rfl) rfl rfl rfl ?_
    refine AO.nil ?_
    refine AQ.thenN ?_
    refine AW.condF rfl ?_
    refine AW.skip ?_
    refine AQ.thenN ?_
    refine AW.seq ?_
    refine AW.region ?_
    refine AO.op (O.move rfl rfl) rfl rfl rfl ?_
    refine AO.op (O.assign rfl rfl) rfl rfl rfl ?_
    refine AO.op (O.assign rfl rfl) rfl rfl rfl ?_
    refine AO.nil ?_
    refine AQ.thenN ?_
    refine AW.ret ?_
    refine AQ.ret2 rfl rfl rfl ⟨_, List.nil_sublist _, .nil⟩ (⟨rfl, rfl⟩)
end Go.Proofs.YtoonnnifelnaiaaGreatDoor.By

namespace Go.Proofs.YtoonnnifelnaiaaGreatDoor.A
open Go.RowKit L
set_option linter.unusedVariables false
set_option maxRecDepth 20000
set_option linter.unusedSimpArgs false
section
variable {Γ : Cx} {P : Program} {Q : Exit → Act → World → Prop} {E : Env} {H : List HE} {N : Nat} {o : Oper} {ops : Array Oper} {rest : List Oper}
end
end Go.Proofs.YtoonnnifelnaiaaGreatDoor.A

namespace Go.Proofs.YtoonnnifelnaiaaGreatDoor.By
open Go.RowKit L A Dk
set_option linter.unusedVariables false
set_option maxRecDepth 20000
set_option linter.unusedSimpArgs false
attribute [local irreducible] AW AQ AO
theorem pparse1_fn : Sp Tryz.prog 106 [.val (.string ⟨#[49]⟩), .val (.int .i64 10), .val (.int .i64 64)] [] (Is (.tup [.val (.int .u64 1), .val .nilIface])) := by
  refine Sp.enter Tryz.func106 rfl _ Tryz.ntmps106 rfl (fun w0 R0 => ?_)
  refine AW.seq ?_
  refine AW.region ?_
  refine AO.op (O.assign rfl rfl) rfl rfl rfl ?_
  refine AO.op (O.assign rfl rfl) rfl rfl rfl ?_
  refine AO.nil ?_
  refine AQ.thenN ?_
  refine AW.seq ?_
  refine AW.region ?_
  refine AO.op (O.move rfl rfl) rfl rfl rfl ?_
  refine AO.op (O.move rfl rfl) rfl rfl rfl ?_
  refine AO.op (O.move rfl rfl) rfl rfl rfl ?_
  refine AO.op (O.call rfl Tryz.func124 rfl rfl rfl (parse1_fn)) rfl rfl rfl ?_
  refine AO.op (O.move rfl rfl) rfl rfl rfl ?_
  refine AO.op (O.extract rfl rfl rfl) rfl rfl rfl ?_
  refine AO.op (O.extract rfl rfl rfl) rfl rfl rfl ?_
  refine AO.op (O.assign rfl rfl) rfl rfl rfl ?_
  refine AO.op (O.assign rfl rfl) rfl rfl rfl ?_
  refine AO.nil ?_
  refine AQ.thenN ?_
  refine AW.seq ?_
  refine AW.seq ?_
  refine AW.region ?_
  refine AO.op (O.move rfl rfl) rfl rfl rfl ?_
  refine AO.op (O.neqNilI ⟨_, Tryz.underlying175⟩ rfl rfl) rfl rfl rfl ?_
  refine AO.nil ?_
  refine AQ.thenN ?_
  refine AW.condF rfl ?_
  refine AW.skip ?_
  refine AQ.thenN ?_
  refine AW.seq ?_
  refine AW.region ?_
  refine AO.op (O.move rfl rfl) rfl rfl rfl ?_
  refine AO.op (O.assign rfl rfl) rfl rfl rfl ?_
  refine AO.op (O.assign rfl rfl) rfl rfl rfl ?_
  refine AO.nil ?_
  refine AQ.thenN ?_
  refine AW.ret ?_
  refine AQ.ret2 rfl rfl rfl ⟨_, List.nil_sublist _, .nil⟩ (⟨rfl, rfl⟩)
abbrev t1 : ByteArray := ⟨#[49, 93]⟩
abbrev t2 : ByteArray := ⟨#[93]⟩
theorem number_fn (B : Nat) : Sp Tryz.prog 103 [ptr B] [parsB B ⟨#[49, 93]⟩ 2 false] (IsM (.val (.int .u64 1)) (parsB B ⟨#[93]⟩ 2 false)) := by
  have z1 : (⟨#[49, 93]⟩ : ByteArray).size = 2 := rfl
  have x1 : (⟨#[49, 93]⟩ : ByteArray).extract 0 1 = ⟨#[49]⟩ := by decide +kernel
  have x2 : (⟨#[49, 93]⟩ : ByteArray).extract 1 (⟨#[49, 93]⟩ : ByteArray).size = ⟨#[93]⟩ := by decide +kernel
  have y1 : (⟨#[49, 93]⟩ : ByteArray).toList[(((0 : Nat) : Int)).toNat]? = some 49 := by decide +kernel
  have y2 : (⟨#[49, 93]⟩ : ByteArray).toList[(((1 : Nat) : Int)).toNat]? = some 93 := by decide +kernel
  have v1 : (((49 : UInt8).toNat : Nat) : Int) = 49 := rfl
  have v2 : (((93 : UInt8).toNat : Nat) : Int) = 93 := rfl
  refine Sp.enter Tryz.func103 rfl _ Tryz.ntmps103 rfl (fun w0 R0 => ?_)
  refine AW.seq ?_
  refine AW.region ?_
  refine AO.op (O.assign rfl rfl) rfl rfl rfl ?_
  refine AO.nil ?_
  refine AQ.thenN ?_
  refine AW.seq ?_
  refine AW.region ?_
  refine AO.op (O.assign rfl rfl) rfl rfl rfl ?_
  refine AO.nil ?_
  refine AQ.thenN ?_
  refine AW.seq ?_
  refine AW.block ?_
  refine AW.loopK [(0, _)] (fun nn E H => ∃ (k : Nat), (k ≤ 1) ∧ nn = 1 - k ∧ E = [(3, .val (.int .i64 (k : Int)))] ∧ H = [parsB B ⟨#[49, 93]⟩ 2 false]) _ (⟨0, by omega, rfl, rfl, rfl⟩) (by repeat (first | exact envNil | refine envCons rfl ?_)) (by repeat (first | exact envNil | refine envCons rfl ?_)) (by repeat (first | exact subPnil | refine subPcons 0 rfl ?_)) ?_
  rintro nn E H ⟨k, hk, rfl, rfl, rfl⟩
  dsimp only [List.cons_append, List.nil_append]
  obtain rfl | rfl : k = 0 ∨ k = 1 := by omega
  · skip
    refine AW.seq ?_
    refine AW.seq ?_
    refine AW.region ?_
    refine AO.op (O.move rfl rfl) rfl rfl rfl ?_
    refine AO.op (O.move rfl rfl) rfl rfl rfl ?_
    refine AO.op (O.nilCheck rfl rfl) rfl rfl rfl ?_
    refine AO.op (O.fieldAddr rfl rfl) rfl rfl rfl ?_
    refine AO.op (O.load rfl rfl (by repeat (exact List.Mem.head _)) (by rfl)) rfl rfl rfl ?_
    refine AO.op (O.lenS rfl rfl) rfl rfl rfl ?_
    refine AO.op (O.lss rfl rfl rfl (by exact bTrue (by omega))) rfl rfl rfl ?_
    refine AO.op (O.move rfl rfl) rfl rfl rfl ?_
    refine AO.opG rfl rfl rfl (fun hp => O.move rfl rfl) ?_
    refine AO.opG rfl rfl rfl (fun hp => OpW.force 14 rfl (by exact hp) (O.nilCheck rfl rfl)) ?_
    refine AO.opG rfl rfl rfl (fun hp => OpW.force 15 rfl (by exact hp) (O.fieldAddr rfl rfl)) ?_
    refine AO.opG rfl rfl rfl (fun hp => OpW.force 16 rfl (by exact hp) (O.load rfl rfl (by repeat (exact List.Mem.head _)) (by rfl))) ?_
    refine AO.opG rfl rfl rfl (fun hp => O.move rfl rfl) ?_
    refine AO.opG rfl rfl rfl (fun hp => OpW.force 17 rfl (by exact hp) (OpW.force 18 rfl (by exact hp) (O.indexS rfl rfl rfl ⟨by omega, by assumption⟩))) ?_
    refine AO.opG rfl rfl rfl (fun hp => OpW.force 19 rfl (by exact hp) (O.geq rfl rfl rfl (by exact bTrue (by omega)))) ?_
    refine AO.op (O.pickAnd rfl rfl rfl rfl (fun h => by exact h)) rfl rfl rfl ?_
    refine AO.op (O.move rfl rfl) rfl rfl rfl ?_
    refine AO.opG rfl rfl rfl (fun hp => O.move rfl rfl) ?_
    refine AO.opG rfl rfl rfl (fun hp => OpW.force 23 rfl (by exact hp) (O.nilCheck rfl rfl)) ?_
    refine AO.opG rfl rfl rfl (fun hp => OpW.force 24 rfl (by exact hp) (O.fieldAddr rfl rfl)) ?_
    refine AO.opG rfl rfl rfl (fun hp => OpW.force 25 rfl (by exact hp) (O.load rfl rfl (by repeat (exact List.Mem.head _)) (by rfl))) ?_
    refine AO.opG rfl rfl rfl (fun hp => O.move rfl rfl) ?_
    refine AO.opG rfl rfl rfl (fun hp => OpW.force 26 rfl (by exact hp) (OpW.force 27 rfl (by exact hp) (O.indexS rfl rfl rfl ⟨by omega, by assumption⟩))) ?_
    refine AO.opG rfl rfl rfl (fun hp => OpW.force 28 rfl (by exact hp) (O.leq rfl rfl rfl (by exact bTrue (by omega)))) ?_
    refine AO.op (O.pickAnd rfl rfl rfl rfl (fun h => by exact h)) rfl rfl rfl ?_
    refine AO.nil ?_
    refine AQ.thenN ?_
    refine AW.condT rfl ?_
    refine AW.skip ?_
    refine AQ.thenN ?_
    refine AW.block ?_
    refine AW.region ?_
    refine AO.op (O.move rfl rfl) rfl rfl rfl ?_
    refine AO.op (O.add rfl rfl rfl (by exact wI64 (by omega))) rfl rfl rfl ?_
    refine AO.op (O.assign rfl rfl) rfl rfl rfl ?_
    refine AO.nil ?_
    refine AQ.blockN ?_
    refine AQ.loopKN _ _ _ (by omega) (⟨1, by omega, rfl, rfl, rfl⟩) (by repeat (first | exact envNil | refine envCons rfl ?_)) (by repeat (first | exact envNil | refine envCons rfl ?_)) (by repeat (first | exact subPnil | refine subPcons 0 rfl ?_))
  · skip
    refine AW.seq ?_
    refine AW.seq ?_
    refine AW.region ?_
    refine AO.op (O.move rfl rfl) rfl rfl rfl ?_
    refine AO.op (O.move rfl rfl) rfl rfl rfl ?_
    refine AO.op (O.nilCheck rfl rfl) rfl rfl rfl ?_
    refine AO.op (O.fieldAddr rfl rfl) rfl rfl rfl ?_
    refine AO.op (O.load rfl rfl (by repeat (exact List.Mem.head _)) (by rfl)) rfl rfl rfl ?_
    refine AO.op (O.lenS rfl rfl) rfl rfl rfl ?_
    refine AO.op (O.lss rfl rfl rfl (by exact bTrue (by omega))) rfl rfl rfl ?_
    refine AO.op (O.move rfl rfl) rfl rfl rfl ?_
    refine AO.opG rfl rfl rfl (fun hp => O.move rfl rfl) ?_
    refine AO.opG rfl rfl rfl (fun hp => OpW.force 14 rfl (by exact hp) (O.nilCheck rfl rfl)) ?_
    refine AO.opG rfl rfl rfl (fun hp => OpW.force 15 rfl (by exact hp) (O.fieldAddr rfl rfl)) ?_
    refine AO.opG rfl rfl rfl (fun hp => OpW.force 16 rfl (by exact hp) (O.load rfl rfl (by repeat (exact List.Mem.head _)) (by rfl))) ?_
    refine AO.opG rfl rfl rfl (fun hp => O.move rfl rfl) ?_
    refine AO.opG rfl rfl rfl (fun hp => OpW.force 17 rfl (by exact hp) (OpW.force 18 rfl (by exact hp) (O.indexS rfl rfl rfl ⟨by omega, by assumption⟩))) ?_
    refine AO.opG rfl rfl rfl (fun hp => OpW.force 19 rfl (by exact hp) (O.geq rfl rfl rfl (by exact bTrue (by omega)))) ?_
    refine AO.op (O.pickAnd rfl rfl rfl rfl (fun h => by exact h)) rfl rfl rfl ?_
    refine AO.op (O.move rfl rfl) rfl rfl rfl ?_
    refine AO.opG rfl rfl rfl (fun hp => O.move rfl rfl) ?_
    refine AO.opG rfl rfl rfl (fun hp => OpW.force 23 rfl (by exact hp) (O.nilCheck rfl rfl)) ?_
    refine AO.opG rfl rfl rfl (fun hp => OpW.force 24 rfl (by exact hp) (O.fieldAddr rfl rfl)) ?_
    refine AO.opG rfl rfl rfl (fun hp => OpW.force 25 rfl (by exact hp) (O.load rfl rfl (by repeat (exact List.Mem.head _)) (by rfl))) ?_
    refine AO.opG rfl rfl rfl (fun hp => O.move rfl rfl) ?_
    refine AO.opG rfl rfl rfl (fun hp => OpW.force 26 rfl (by exact hp) (OpW.force 27 rfl (by exact hp) (O.indexS rfl rfl rfl ⟨by omega, by assumption⟩))) ?_
    refine AO.opG rfl rfl rfl (fun hp => OpW.force 28 rfl (by exact hp) (O.leq rfl rfl rfl (by exact bFalse (by omega)))) ?_
    refine AO.op (O.pickAnd rfl rfl rfl rfl (fun h => by exact h)) rfl rfl rfl ?_
    refine AO.nil ?_
    refine AQ.thenN ?_
    refine AW.condF rfl ?_
    refine AW.exit ?_
    refine AQ.thenX ?_
    refine AQ.loopX ?_
    refine AQ.blockX rfl ?_
    refine AQ.thenN ?_
    refine AW.seq ?_
    refine AW.region ?_
    refine AO.op (O.move rfl rfl) rfl rfl rfl ?_
    refine AO.op (O.nilCheck rfl rfl) rfl rfl rfl ?_
    refine AO.op (O.fieldAddr rfl rfl) rfl rfl rfl ?_
    refine AO.op (O.load rfl rfl (by repeat (exact List.Mem.head _)) (by rfl)) rfl rfl rfl ?_
    refine AO.op (O.move rfl rfl) rfl rfl rfl ?_
    refine AO.op (O.sliceS rfl rfl (by exact rfl) (by exact ⟨_, _, rfl, by rfl⟩) (by omega) (by omega) (by assumption)) rfl rfl rfl ?_
    refine AO.op (O.call rfl Tryz.func106 rfl rfl rfl (pparse1_fn)) rfl rfl rfl ?_
    refine AO.op (O.move rfl rfl) rfl rfl rfl ?_
    refine AO.op (O.extract rfl rfl rfl) rfl rfl rfl ?_
    refine AO.op (O.extract rfl rfl rfl) rfl rfl rfl ?_
    refine AO.op (O.assign rfl rfl) rfl rfl rfl ?_
    refine AO.op (O.assign rfl rfl) rfl rfl rfl ?_
    refine AO.nil ?_
    refine AQ.thenN ?_
    refine AW.seq ?_
    refine AW.region ?_
    refine AO.op (O.move rfl rfl) rfl rfl rfl ?_
    refine AO.op (O.move rfl rfl) rfl rfl rfl ?_
    refine AO.op (O.nilCheck rfl rfl) rfl rfl rfl ?_
    refine AO.op (O.fieldAddr rfl rfl) rfl rfl rfl ?_
    refine AO.op (O.load rfl rfl (by repeat (exact List.Mem.head _)) (by rfl)) rfl rfl rfl ?_
    refine AO.op (O.move rfl rfl) rfl rfl rfl ?_
    refine AO.opG rfl rfl rfl (fun hp => O.move rfl rfl) ?_
    refine AO.opG rfl rfl rfl (fun hp => OpW.force 49 rfl (by exact hp) (O.neqNilI ⟨_, Tryz.underlying175⟩ rfl rfl)) ?_
    refine AO.op (O.pickOr rfl rfl rfl rfl (fun h => by exact congrArg (fun b => !b) h)) rfl rfl rfl ?_
    refine AO.op (O.move rfl rfl) rfl rfl rfl ?_
    refine AO.opG rfl rfl rfl (fun hp => O.move rfl rfl) ?_
    refine AO.opG rfl rfl rfl (fun hp => OpW.force 53 rfl (by exact hp) (O.gtr rfl rfl rfl (by exact bFalse (by omega)))) ?_
    refine AO.opG rfl rfl rfl (fun hp => OpW.force 54 rfl (by exact hp) (O.move rfl rfl)) ?_
    refine AO.opG rfl rfl rfl (fun hp => O.move rfl rfl) ?_
    refine AO.opG rfl rfl rfl (fun hp => OpW.force 56 rfl (by exact hp) (O.nilCheck rfl rfl)) ?_
    refine AO.opG rfl rfl rfl (fun hp => OpW.force 57 rfl (by exact hp) (O.fieldAddr rfl rfl)) ?_
    refine AO.opG rfl rfl rfl (fun hp => OpW.force 58 rfl (by exact hp) (O.load rfl rfl (by repeat (exact List.Mem.head _)) (by rfl))) ?_
    refine AO.opG rfl rfl rfl (fun hp => OpW.force 59 rfl (by exact hp) (O.indexS rfl rfl rfl ⟨by omega, by assumption⟩)) ?_
    refine AO.opG rfl rfl rfl (fun hp => OpW.force 60 rfl (by exact hp) (O.eql rfl rfl rfl (by exact beq_eq_false_iff_ne.2 (by omega)))) ?_
    refine AO.opG rfl rfl rfl (fun hp => OpW.force 55 rfl (by exact hp) (O.pickAnd rfl rfl rfl rfl (fun h => by exact h))) ?_
    refine AO.op (O.pickOr rfl rfl rfl rfl (fun h => by exact congrArg (fun b => !b) h)) rfl rfl rfl ?_
    refine AO.op (O.nilCheck rfl rfl) rfl rfl rfl ?_
    refine AO.op (O.fieldAddr rfl rfl) rfl rfl rfl ?_
    (refine AO.store (i := 0) rfl rfl rfl rfl rfl rfl (by rfl) (by rfl) (by rfl) (by (dsimp only [List.set, List.cons_append, List.nil_append, List.take, List.drop]; done)) (by (dsimp only [List.set, List.cons_append, List.nil_append, List.take, List.drop]; done)) ?_)
    refine AO.nil ?_
    refine AQ.thenN ?_
    refine AW.seq ?_
    refine AW.region ?_
    refine AO.op (O.move rfl rfl) rfl rfl rfl ?_
    refine AO.op (O.move rfl rfl) rfl rfl rfl ?_
    refine AO.op (O.nilCheck rfl rfl) rfl rfl rfl ?_
    refine AO.op (O.fieldAddr rfl rfl) rfl rfl rfl ?_
    refine AO.op (O.load rfl rfl (by repeat (exact List.Mem.head _)) (by rfl)) rfl rfl rfl ?_
    refine AO.op (O.move rfl rfl) rfl rfl rfl ?_
    refine AO.op (O.sliceS rfl rfl (by exact ⟨_, _, rfl, by rfl⟩) (by exact rfl) (by omega) (by omega) (by assumption)) rfl rfl rfl ?_
    refine AO.op (O.nilCheck rfl rfl) rfl rfl rfl ?_
    refine AO.op (O.fieldAddr rfl rfl) rfl rfl rfl ?_
    (refine AO.store (i := 0) rfl rfl rfl rfl rfl rfl (by rfl) (by rfl) (by rfl) (by (dsimp only [List.set, List.cons_append, List.nil_append, List.take, List.drop]; done)) (by (dsimp only [List.set, List.cons_append, List.nil_append, List.take, List.drop]; done)) ?_)
    refine AO.nil ?_
    refine AQ.thenN ?_
    refine AW.seq ?_
    refine AW.region ?_
    refine AO.op (O.move rfl rfl) rfl rfl rfl ?_
    refine AO.op (O.assign rfl rfl) rfl rfl rfl ?_
    refine AO.nil ?_
    refine AQ.thenN ?_
    refine AW.ret ?_
    refine AQ.ret1 rfl rfl ⟨_, by repeat (first | exact List.Sublist.slnil | refine List.Sublist.cons_cons _ ?_), List.Perm.refl _⟩ (⟨rfl, rfl⟩)
  skip
abbrev namesV : List Value := [.string ⟨#[102, 97, 108, 115, 101]⟩, .string ⟨#[116, 114, 117, 101]⟩, .string ⟨#[110, 117, 108, 108]⟩, .string ⟨#[117, 110, 100, 101, 102, 105, 110, 101, 100]⟩]
abbrev GN (W : World) : Prop := GK 0 namesV W
abbrev uintA (k n : Int) : List AV := [.val (.int .i64 k), .val (.int .u64 n), .val (.slice none 0 0), .val (.slice none 0 0)]
abbrev arrA (n : Nat) (xs : List AV) : List AV := [.val (.int .i64 4), .val (.int .u64 0), .val (.slice none 0 0), .ro false n xs]
theorem item1_fn (B : Nat) (hB : B ≠ 0) : SpK GN Tryz.prog 80 [ptr B, .val (.int .i64 1)] [parsB B ⟨#[49, 93]⟩ 1 false] (IsM (.agg (uintA 0 1)) (parsB B ⟨#[93]⟩ 2 false)) := by
  have p1 : PreN ⟨#[49, 93]⟩ ⟨#[104, 39]⟩ := by decide +kernel
  have p2 : PreN ⟨#[49, 93]⟩ ⟨#[34]⟩ := by decide +kernel
  have p3 : PreN ⟨#[49, 93]⟩ ⟨#[91]⟩ := by decide +kernel
  have p4 : PreN ⟨#[49, 93]⟩ ⟨#[123]⟩ := by decide +kernel
  have p5 : PreN ⟨#[49, 93]⟩ ⟨#[115, 105, 109, 112, 108, 101, 40]⟩ := by decide +kernel
  have p6 : PreN ⟨#[49, 93]⟩ ⟨#[102, 108, 111, 97, 116, 39]⟩ := by decide +kernel
  have p7 : PreN ⟨#[49, 93]⟩ ⟨#[45]⟩ := by decide +kernel
  have p8 : PreN ⟨#[49, 93]⟩ ⟨#[102, 97, 108, 115, 101]⟩ := by decide +kernel
  have p9 : PreN ⟨#[49, 93]⟩ ⟨#[116, 114, 117, 101]⟩ := by decide +kernel
  have pa : PreN ⟨#[49, 93]⟩ ⟨#[110, 117, 108, 108]⟩ := by decide +kernel
  have pb : PreN ⟨#[49, 93]⟩ ⟨#[117, 110, 100, 101, 102, 105, 110, 101, 100]⟩ := by decide +kernel
  have pc : PreN ⟨#[93]⟩ ⟨#[40]⟩ := by decide +kernel
  refine SpK.enter Tryz.func80 rfl _ Tryz.ntmps80 rfl (fun w0 R0 hK => ?_)
  refine AW.seq ?_
  refine AW.region ?_
  refine AO.opB (O.alloc rfl (by (dsimp only [zerosA, List.replicate, List.append, List.flatten, AV.cells, Value.cells, List.toList_toArray, List.map]; done)) (by rfl)) rfl rfl rfl ?_
  intro B1
  refine AO.nil ?_
  refine AQ.thenN ?_
  refine AW.seq ?_
  refine AW.region ?_
  refine AO.op (O.move rfl rfl) rfl rfl rfl ?_
  refine AO.op (O.nilCheck rfl rfl) rfl rfl rfl ?_
  refine AO.op (O.fieldAddr rfl rfl) rfl rfl rfl ?_
  refine AO.op (O.load rfl rfl (by repeat (first | exact List.Mem.head _ | refine List.Mem.tail _ ?_)) (by rfl)) rfl rfl rfl ?_
  refine AO.op (O.add rfl rfl rfl (by exact wI64 (by omega))) rfl rfl rfl ?_
  refine AO.op (O.nilCheck rfl rfl) rfl rfl rfl ?_
  refine AO.op (O.fieldAddr rfl rfl) rfl rfl rfl ?_
  (refine AO.store (i := 1) rfl rfl rfl rfl rfl rfl (by rfl) (by rfl) (by rfl) (by (dsimp only [List.set, List.cons_append, List.nil_append, List.take, List.drop]; done)) (by (dsimp only [List.set, List.cons_append, List.nil_append, List.take, List.drop]; done)) ?_)
  refine AO.nil ?_
  refine AQ.thenN ?_
  refine AW.seq ?_
  refine AW.seq ?_
  refine AW.region ?_
  refine AO.op (O.move rfl rfl) rfl rfl rfl ?_
  refine AO.op (O.nilCheck rfl rfl) rfl rfl rfl ?_
  refine AO.op (O.fieldAddr rfl rfl) rfl rfl rfl ?_
  refine AO.op (O.load rfl rfl (by repeat (first | exact List.Mem.head _ | refine List.Mem.tail _ ?_)) (by rfl)) rfl rfl rfl ?_
  refine AO.op (O.move rfl rfl) rfl rfl rfl ?_
  refine AO.opG rfl rfl rfl (fun hp => O.move rfl rfl) ?_
  refine AO.opG rfl rfl rfl (fun hp => OpW.force 26 rfl (by exact hp) (O.nilCheck rfl rfl)) ?_
  refine AO.opG rfl rfl rfl (fun hp => OpW.force 27 rfl (by exact hp) (O.fieldAddr rfl rfl)) ?_
  refine AO.opG rfl rfl rfl (fun hp => OpW.force 28 rfl (by exact hp) (O.load rfl rfl (by repeat (first | exact List.Mem.head _ | refine List.Mem.tail _ ?_)) (by rfl))) ?_
  refine AO.opG rfl rfl rfl (fun hp => OpW.force 29 rfl (by exact hp) (O.gtr rfl rfl rfl (by exact bFalse (by omega)))) ?_
  refine AO.op (O.pickOr rfl rfl rfl rfl (fun h => by exact congrArg (fun b => !b) h)) rfl rfl rfl ?_
  refine AO.op (O.move rfl rfl) rfl rfl rfl ?_
  refine AO.opG rfl rfl rfl (fun hp => O.move rfl rfl) ?_
  refine AO.opG rfl rfl rfl (fun hp => OpW.force 33 rfl (by exact hp) (O.gtr rfl rfl rfl (by exact bFalse (by omega)))) ?_
  refine AO.op (O.pickOr rfl rfl rfl rfl (fun h => by exact congrArg (fun b => !b) h)) rfl rfl rfl ?_
  refine AO.nil ?_
  refine AQ.thenN ?_
  refine AW.condF rfl ?_
  refine AW.skip ?_
  refine AQ.thenN ?_
  refine AW.seq ?_
  refine AW.block ?_
  refine AW.seq ?_
  refine AW.region ?_
  refine AO.op (O.move rfl rfl) rfl rfl rfl ?_
  (refine AO.callM1 (i := 1) rfl rfl Tryz.func99 rfl rfl rfl rfl rfl rfl (skip_no ‹_›) (by (dsimp only [List.set, List.cons_append, List.nil_append, List.take, List.drop]; done)) ?_)
  refine AO.op (O.assign rfl rfl) rfl rfl rfl ?_
  refine AO.nil ?_
  refine AQ.thenN ?_
  refine AW.condF rfl ?_
  refine AW.seq ?_
  refine AW.region ?_
  refine AO.op (O.move rfl rfl) rfl rfl rfl ?_
  (refine AO.callM1 (i := 1) rfl rfl Tryz.func99 rfl rfl rfl rfl rfl rfl (skip_no ‹_›) (by (dsimp only [List.set, List.cons_append, List.nil_append, List.take, List.drop]; done)) ?_)
  refine AO.op (O.assign rfl rfl) rfl rfl rfl ?_
  refine AO.nil ?_
  refine AQ.thenN ?_
  refine AW.condF rfl ?_
  refine AW.seq ?_
  refine AW.region ?_
  refine AO.op (O.move rfl rfl) rfl rfl rfl ?_
  (refine AO.callM1 (i := 1) rfl rfl Tryz.func99 rfl rfl rfl rfl rfl rfl (skip_no ‹_›) (by (dsimp only [List.set, List.cons_append, List.nil_append, List.take, List.drop]; done)) ?_)
  refine AO.op (O.assign rfl rfl) rfl rfl rfl ?_
  refine AO.nil ?_
  refine AQ.thenN ?_
  refine AW.condF rfl ?_
  refine AW.seq ?_
  refine AW.region ?_
  refine AO.op (O.move rfl rfl) rfl rfl rfl ?_
  (refine AO.callM1 (i := 1) rfl rfl Tryz.func99 rfl rfl rfl rfl rfl rfl (skip_no ‹_›) (by (dsimp only [List.set, List.cons_append, List.nil_append, List.take, List.drop]; done)) ?_)
  refine AO.op (O.assign rfl rfl) rfl rfl rfl ?_
  refine AO.nil ?_
  refine AQ.thenN ?_
  refine AW.condF rfl ?_
  refine AW.seq ?_
  refine AW.region ?_
  refine AO.op (O.move rfl rfl) rfl rfl rfl ?_
  (refine AO.callM1 (i := 1) rfl rfl Tryz.func99 rfl rfl rfl rfl rfl rfl (skip_no ‹_›) (by (dsimp only [List.set, List.cons_append, List.nil_append, List.take, List.drop]; done)) ?_)
  refine AO.op (O.assign rfl rfl) rfl rfl rfl ?_
  refine AO.nil ?_
  refine AQ.thenN ?_
  refine AW.condF rfl ?_
  refine AW.seq ?_
  refine AW.region ?_
  refine AO.op (O.move rfl rfl) rfl rfl rfl ?_
  (refine AO.callM1 (i := 1) rfl rfl Tryz.func99 rfl rfl rfl rfl rfl rfl (skip_no ‹_›) (by (dsimp only [List.set, List.cons_append, List.nil_append, List.take, List.drop]; done)) ?_)
  refine AO.op (O.assign rfl rfl) rfl rfl rfl ?_
  refine AO.nil ?_
  refine AQ.thenN ?_
  refine AW.condF rfl ?_
  refine AW.seq ?_
  refine AW.region ?_
  refine AO.op (O.move rfl rfl) rfl rfl rfl ?_
  (refine AO.callM1 (i := 1) rfl rfl Tryz.func99 rfl rfl rfl rfl rfl rfl (skip_no ‹_›) (by (dsimp only [List.set, List.cons_append, List.nil_append, List.take, List.drop]; done)) ?_)
  refine AO.op (O.assign rfl rfl) rfl rfl rfl ?_
  refine AO.nil ?_
  refine AQ.thenN ?_
  refine AW.condF rfl ?_
  refine AW.skip ?_
  refine AQ.blockN ?_
  refine AQ.thenN ?_
  refine AW.seq ?_
  refine AW.seq ?_
  refine AW.region ?_
  refine AO.loadG hK (notFoot_blk hB) rfl rfl rfl rfl rfl ?_
  refine AO.op (O.move rfl rfl) rfl rfl rfl ?_
  refine AO.nil ?_
  refine AQ.thenN ?_
  refine AW.block ?_
  refine AW.loopK [(0, _), (1, _), (4, _), (127, _)] (fun nn E H => ∃ (k : Nat), (k ≤ 4) ∧ nn = 4 - k ∧ E = [(128, .val (.int .i64 (k : Int)))] ∧ H = [.blk B1 100 4 [.val (.int .i64 0), .val (.int .u64 0), .val (.slice none 0 0), .val (.slice none 0 0)], parsB B ⟨#[49, 93]⟩ 2 false]) _ (⟨0, by omega, rfl, rfl, rfl⟩) (by repeat (first | exact envNil | refine envCons rfl ?_)) (by repeat (first | exact envNil | refine envCons rfl ?_)) (by repeat (first | exact subPnil | refine subPcons 0 rfl ?_)) ?_
  rintro nn E H ⟨k, hk, rfl, rfl, rfl⟩
  dsimp only [List.cons_append, List.nil_append]
  obtain rfl | rfl | rfl | rfl | rfl : k = 0 ∨ k = 1 ∨ k = 2 ∨ k = 3 ∨ k = 4 := by omega
  · skip
    refine AW.seq ?_
    refine AW.region ?_
    refine AO.op (O.lss rfl rfl rfl (by exact bTrue (by omega))) rfl rfl rfl ?_
    refine AO.nil ?_
    refine AQ.thenN ?_
    refine AW.seq ?_
    refine AW.condT rfl ?_
    refine AW.skip ?_
    refine AQ.thenN ?_
    refine AW.seq ?_
    refine AW.block ?_
    refine AW.seq ?_
    refine AW.region ?_
    refine AO.op (O.move rfl rfl) rfl rfl rfl ?_
    refine AO.op (O.index1 rfl rfl rfl ⟨(by omega), (by omega)⟩ (by rfl)) rfl rfl rfl ?_
    refine AO.op (O.assign rfl rfl) rfl rfl rfl ?_
    refine AO.op (O.assign rfl rfl) rfl rfl rfl ?_
    refine AO.nil ?_
    refine AQ.thenN ?_
    refine AW.seq ?_
    refine AW.region ?_
    refine AO.op (O.move rfl rfl) rfl rfl rfl ?_
    refine AO.op (O.move rfl rfl) rfl rfl rfl ?_
    (refine AO.callM1 (i := 1) rfl rfl Tryz.func99 rfl rfl rfl rfl rfl rfl (skip_no ‹_›) (by (dsimp only [List.set, List.cons_append, List.nil_append, List.take, List.drop]; done)) ?_)
    refine AO.nil ?_
    refine AQ.thenN ?_
    refine AW.condF rfl ?_
    refine AW.skip ?_
    refine AQ.blockN ?_
    refine AQ.thenN ?_
    refine AW.region ?_
    refine AO.op (O.add rfl rfl rfl (by exact wI64 (by omega))) rfl rfl rfl ?_
    refine AO.op (O.move rfl rfl) rfl rfl rfl ?_
    refine AO.nil ?_
    refine AQ.loopKN _ _ _ (by omega) (⟨1, by omega, rfl, rfl, rfl⟩) (by repeat (first | exact envNil | refine envCons rfl ?_)) (by repeat (first | exact envNil | refine envCons rfl ?_)) (by repeat (first | exact subPnil | refine subPcons 0 rfl ?_))
  · skip
    refine AW.seq ?_
    refine AW.region ?_
    refine AO.op (O.lss rfl rfl rfl (by exact bTrue (by omega))) rfl rfl rfl ?_
    refine AO.nil ?_
    refine AQ.thenN ?_
    refine AW.seq ?_
    refine AW.condT rfl ?_
    refine AW.skip ?_
    refine AQ.thenN ?_
    refine AW.seq ?_
    refine AW.block ?_
    refine AW.seq ?_
    refine AW.region ?_
    refine AO.op (O.move rfl rfl) rfl rfl rfl ?_
    refine AO.op (O.index1 rfl rfl rfl ⟨(by omega), (by omega)⟩ (by rfl)) rfl rfl rfl ?_
    refine AO.op (O.assign rfl rfl) rfl rfl rfl ?_
    refine AO.op (O.assign rfl rfl) rfl rfl rfl ?_
    refine AO.nil ?_
    refine AQ.thenN ?_
    refine AW.seq ?_
    refine AW.region ?_
    refine AO.op (O.move rfl rfl) rfl rfl rfl ?_
    refine AO.op (O.move rfl rfl) rfl rfl rfl ?_
    (refine AO.callM1 (i := 1) rfl rfl Tryz.func99 rfl rfl rfl rfl rfl rfl (skip_no ‹_›) (by (dsimp only [List.set, List.cons_append, List.nil_append, List.take, List.drop]; done)) ?_)
    refine AO.nil ?_
    refine AQ.thenN ?_
    refine AW.condF rfl ?_
    refine AW.skip ?_
    refine AQ.blockN ?_
    refine AQ.thenN ?_
    refine AW.region ?_
    refine AO.op (O.add rfl rfl rfl (by exact wI64 (by omega))) rfl rfl rfl ?_
    refine AO.op (O.move rfl rfl) rfl rfl rfl ?_
    refine AO.nil ?_
    refine AQ.loopKN _ _ _ (by omega) (⟨2, by omega, rfl, rfl, rfl⟩) (by repeat (first | exact envNil | refine envCons rfl ?_)) (by repeat (first | exact envNil | refine envCons rfl ?_)) (by repeat (first | exact subPnil | refine subPcons 0 rfl ?_))
  · skip
    refine AW.seq ?_
    refine AW.region ?_
    refine AO.op (O.lss rfl rfl rfl (by exact bTrue (by omega))) rfl rfl rfl ?_
    refine AO.nil ?_
    refine AQ.thenN ?_
    refine AW.seq ?_
    refine AW.condT rfl ?_
    refine AW.skip ?_
    refine AQ.thenN ?_
    refine AW.seq ?_
    refine AW.block ?_
    refine AW.seq ?_
    refine AW.region ?_
    refine AO.op (O.move rfl rfl) rfl rfl rfl ?_
    refine AO.op (O.index1 rfl rfl rfl ⟨(by omega), (by omega)⟩ (by rfl)) rfl rfl rfl ?_
    refine AO.op (O.assign rfl rfl) rfl rfl rfl ?_
    refine AO.op (O.assign rfl rfl) rfl rfl rfl ?_
    refine AO.nil ?_
    refine AQ.thenN ?_
    refine AW.seq ?_
    refine AW.region ?_
    refine AO.op (O.move rfl rfl) rfl rfl rfl ?_
    refine AO.op (O.move rfl rfl) rfl rfl rfl ?_
    (refine AO.callM1 (i := 1) rfl rfl Tryz.func99 rfl rfl rfl rfl rfl rfl (skip_no ‹_›) (by (dsimp only [List.set, List.cons_append, List.nil_append, List.take, List.drop]; done)) ?_)
    refine AO.nil ?_
    refine AQ.thenN ?_
    refine AW.condF rfl ?_
    refine AW.skip ?_
    refine AQ.blockN ?_
    refine AQ.thenN ?_
    refine AW.region ?_
    refine AO.op (O.add rfl rfl rfl (by exact wI64 (by omega))) rfl rfl rfl ?_
    refine AO.op (O.move rfl rfl) rfl rfl rfl ?_
    refine AO.nil ?_
    refine AQ.loopKN _ _ _ (by omega) (⟨3, by omega, rfl, rfl, rfl⟩) (by repeat (first | exact envNil | refine envCons rfl ?_)) (by repeat (first | exact envNil | refine envCons rfl ?_)) (by repeat (first | exact subPnil | refine subPcons 0 rfl ?_))
  · skip
    refine AW.seq ?_
    refine AW.region ?_
    refine AO.op (O.lss rfl rfl rfl (by exact bTrue (by omega))) rfl rfl rfl ?_
    refine AO.nil ?_
    refine AQ.thenN ?_
    refine AW.seq ?_
    refine AW.condT rfl ?_
    refine AW.skip ?_
    refine AQ.thenN ?_
    refine AW.seq ?_
    refine AW.block ?_
    refine AW.seq ?_
    refine AW.region ?_
    refine AO.op (O.move rfl rfl) rfl rfl rfl ?_
    refine AO.op (O.index1 rfl rfl rfl ⟨(by omega), (by omega)⟩ (by rfl)) rfl rfl rfl ?_
    refine AO.op (O.assign rfl rfl) rfl rfl rfl ?_
    refine AO.op (O.assign rfl rfl) rfl rfl rfl ?_
    refine AO.nil ?_
    refine AQ.thenN ?_
    refine AW.seq ?_
    refine AW.region ?_
    refine AO.op (O.move rfl rfl) rfl rfl rfl ?_
    refine AO.op (O.move rfl rfl) rfl rfl rfl ?_
    (refine AO.callM1 (i := 1) rfl rfl Tryz.func99 rfl rfl rfl rfl rfl rfl (skip_no ‹_›) (by (dsimp only [List.set, List.cons_append, List.nil_append, List.take, List.drop]; done)) ?_)
    refine AO.nil ?_
    refine AQ.thenN ?_
    refine AW.condF rfl ?_
    refine AW.skip ?_
    refine AQ.blockN ?_
    refine AQ.thenN ?_
    refine AW.region ?_
    refine AO.op (O.add rfl rfl rfl (by exact wI64 (by omega))) rfl rfl rfl ?_
    refine AO.op (O.move rfl rfl) rfl rfl rfl ?_
    refine AO.nil ?_
    refine AQ.loopKN _ _ _ (by omega) (⟨4, by omega, rfl, rfl, rfl⟩) (by repeat (first | exact envNil | refine envCons rfl ?_)) (by repeat (first | exact envNil | refine envCons rfl ?_)) (by repeat (first | exact subPnil | refine subPcons 0 rfl ?_))
  · skip
    refine AW.seq ?_
    refine AW.region ?_
    refine AO.op (O.lss rfl rfl rfl (by exact bFalse (by omega))) rfl rfl rfl ?_
    refine AO.nil ?_
    refine AQ.thenN ?_
    refine AW.seq ?_
    refine AW.condF rfl ?_
    refine AW.exit ?_
    refine AQ.thenX ?_
    refine AQ.loopX ?_
    refine AQ.blockX rfl ?_
    refine AQ.thenN ?_
    refine AW.seq ?_
    refine AW.region ?_
    refine AO.op (O.move rfl rfl) rfl rfl rfl ?_
    (refine AO.callM1 (i := 1) rfl rfl Tryz.func103 rfl rfl rfl rfl rfl rfl (number_fn B) (by (dsimp only [List.set, List.cons_append, List.nil_append, List.take, List.drop]; done)) ?_)
    refine AO.op (O.assign rfl rfl) rfl rfl rfl ?_
    refine AO.nil ?_
    refine AQ.thenN ?_
    refine AW.seq ?_
    refine AW.seq ?_
    refine AW.region ?_
    refine AO.op (O.move rfl rfl) rfl rfl rfl ?_
    (refine AO.callM1 (i := 1) rfl rfl Tryz.func99 rfl rfl rfl rfl rfl rfl (skip_no ‹_›) (by (dsimp only [List.set, List.cons_append, List.nil_append, List.take, List.drop]; done)) ?_)
    refine AO.op (O.not rfl rfl (by rfl)) rfl rfl rfl ?_
    refine AO.nil ?_
    refine AQ.thenN ?_
    refine AW.condT rfl ?_
    refine AW.seq ?_
    refine AW.region ?_
    refine AO.op (O.move rfl rfl) rfl rfl rfl ?_
    refine AO.op (O.build rfl rfl rfl (by rfl)) rfl rfl rfl ?_
    (refine AO.store (i := 0) rfl rfl rfl rfl rfl rfl (by rfl) (by rfl) (by rfl) (by (dsimp only [List.set, List.cons_append, List.nil_append, List.take, List.drop]; done)) (by (dsimp only [List.set, List.cons_append, List.nil_append, List.take, List.drop]; done)) ?_)
    refine AO.nil ?_
    refine AQ.thenN ?_
    refine AW.ret ?_
    refine AQ.thenR ?_
    refine AQ.retCell rfl rfl (by repeat (exact List.Mem.head _)) (by rfl) rfl ⟨_, by repeat (first | exact List.Sublist.slnil | refine List.Sublist.cons_cons _ ?_ | refine List.Sublist.cons _ ?_), List.Perm.refl _⟩ (⟨rfl, rfl⟩)
  skip
end Go.Proofs.YtoonnnifelnaiaaGreatDoor.By

namespace Go.Proofs.YtoonnnifelnaiaaGreatDoor.By
open Go.RowKit L A Dk
set_option linter.unusedVariables false
set_option maxRecDepth 20000
set_option linter.unusedSimpArgs false
attribute [local irreducible] AW AQ AO
theorem list1_fn (B : Nat) (hB : B ≠ 0) : SpK GN Tryz.prog 102 [ptr B, .val (.string ⟨#[93]⟩), .val (.bool false), .val (.int .i64 1)] [parsB B ⟨#[49, 93]⟩ 1 false] (IsM (.ro false 1 (uintA 0 1)) (parsB B ⟨#[]⟩ 2 false)) := by
  have p1 : PreN ⟨#[49, 93]⟩ ⟨#[93]⟩ := by decide +kernel
  have p2 : PreY ⟨#[93]⟩ ⟨#[93]⟩ ⟨#[]⟩ := by decide +kernel
  refine SpK.enter Tryz.func102 rfl _ Tryz.ntmps102 rfl (fun w0 R0 hK => ?_)
  refine AW.seq ?_
  refine AW.region ?_
  refine AO.op (O.assign rfl rfl) rfl rfl rfl ?_
  refine AO.nil ?_
  refine AQ.thenN ?_
  refine AW.seq ?_
  refine AW.region ?_
  refine AO.op (O.assign rfl rfl) rfl rfl rfl ?_
  refine AO.nil ?_
  refine AQ.thenN ?_
  refine AW.seq ?_
  refine AW.block ?_
  refine AW.g ?_
  refine G.nilRow 100 4 ?_
  refine AW.u ?_
  refine AW.loopK [(0, _), (1, _), (2, _), (3, _)] (fun nn E H => ∃ (V : Value) (s : ByteArray) (q : Int) (n : Nat) (xs : List AV), (V.oneCell' = true) ∧ ((s = ⟨#[49, 93]⟩ ∧ q = 1 ∧ n = 0 ∧ xs = []) ∨ (s = ⟨#[93]⟩ ∧ q = 2 ∧ n = 1 ∧ xs = uintA 0 1)) ∧ nn = 1 - n ∧ E = [(9, .val V)] ∧ H = [.row V 100 4 n xs, parsB B s q false]) _ (⟨_, _, _, _, _, rfl, .inl ⟨rfl, rfl, rfl, rfl⟩, rfl, rfl, rfl⟩) (by repeat (first | exact envNil | refine envCons rfl ?_)) (by repeat (first | exact envNil | refine envCons rfl ?_)) (by repeat (first | exact subPnil | refine subPcons 0 rfl ?_)) ?_
  rintro nn E H ⟨V, s, q, n, xs, hV, hc, rfl, rfl, rfl⟩
  dsimp only [List.cons_append, List.nil_append]
  obtain ⟨rfl, rfl, rfl, rfl⟩ | ⟨rfl, rfl, rfl, rfl⟩ := hc
  · skip
    refine AW.seq ?_
    refine AW.seq ?_
    refine AW.region ?_
    refine AO.op (O.move rfl rfl) rfl rfl rfl ?_
    refine AO.op (O.nilCheck rfl rfl) rfl rfl rfl ?_
    refine AO.op (O.fieldAddr rfl rfl) rfl rfl rfl ?_
    refine AO.op (O.load rfl rfl (by repeat (first | exact List.Mem.head _ | refine List.Mem.tail _ ?_)) (by rfl)) rfl rfl rfl ?_
    refine AO.op (O.not rfl rfl (by rfl)) rfl rfl rfl ?_
    refine AO.op (O.move rfl rfl) rfl rfl rfl ?_
    refine AO.op (O.move rfl rfl) rfl rfl rfl ?_
    refine AO.op (O.move rfl rfl) rfl rfl rfl ?_
    (refine AO.callM1w (i := 1) rfl rfl Tryz.func99 rfl rfl rfl rfl rfl rfl (skip_no ‹_›) (by (dsimp only [List.set, List.cons_append, List.nil_append, List.take, List.drop]; done)) ?_)
    refine AO.op (O.not rfl rfl (by rfl)) rfl rfl rfl ?_
    refine AO.op (O.pickT rfl rfl rfl) rfl rfl rfl ?_
    refine AO.nil ?_
    refine AQ.thenN ?_
    refine AW.condT rfl ?_
    refine AW.skip ?_
    refine AQ.thenN ?_
    refine AW.block ?_
    refine AW.seq ?_
    refine AW.seq ?_
    refine AW.region ?_
    refine AO.op (O.move rfl rfl) rfl rfl rfl ?_
    refine AO.op (O.lenRow rfl rfl (by repeat (exact List.Mem.head _))) rfl rfl rfl ?_
    refine AO.op (O.gtr rfl rfl rfl (by exact bFalse (by omega))) rfl rfl rfl ?_
    refine AO.nil ?_
    refine AQ.thenN ?_
    refine AW.condF rfl ?_
    refine AW.skip ?_
    refine AQ.thenN ?_
    refine AW.seq ?_
    refine AW.region ?_
    refine AO.op (O.move rfl rfl) rfl rfl rfl ?_
    refine AO.op (O.move rfl rfl) rfl rfl rfl ?_
    refine AO.op (O.move rfl rfl) rfl rfl rfl ?_
    (refine AO.callK1 (i := 1) hK (notFoot_blk hB) rfl rfl Tryz.func80 rfl rfl rfl rfl rfl rfl (item1_fn B hB) (by (dsimp only [List.set, List.cons_append, List.nil_append, List.take, List.drop]; done)) ?_)
    refine AO.opB (O.buildSlice rfl rfl rfl (by rfl) (by rfl) (by rfl) (by rfl)) rfl rfl rfl ?_
    intro B1
    refine AO.g ?_
    (refine G.freezeSl 0 30 rfl rfl ⟨Nat.le_refl _, by unfold maxLen; omega⟩ ?_)
    refine G.unfull 30 rfl ?_
    refine AO.u ?_
    dsimp only [List.eraseIdx]
    (refine AO.append' (i := 0) rfl rfl rfl rfl (by rfl) (by rfl) rfl rfl rfl (by exact SrcA.ro TyD.ax (by rfl) (Nat.le_of_ble_eq_true rfl)) (by rfl) (by (unfold maxLen; omega)) (by omega) (by (dsimp only [List.set, List.cons_append, List.nil_append, List.take, List.drop]; done)) (fun _ => by (dsimp only [List.set]; done)) ?_)
    intro V2 hV2
    refine AO.op (O.assign rfl rfl) rfl rfl rfl ?_
    refine AO.nil ?_
    refine AQ.thenN ?_
    refine AW.seq ?_
    refine AW.region ?_
    refine AO.op (O.move rfl rfl) rfl rfl rfl ?_
    refine AO.nil ?_
    refine AQ.thenN ?_
    refine AW.condF rfl ?_
    refine AW.skip ?_
    refine AQ.blockN ?_
    refine AQ.loopKN _ _ _ (by omega) (⟨_, _, _, _, _, ‹_›, .inr ⟨rfl, rfl, rfl, rfl⟩, rfl, rfl, rfl⟩) (by repeat (first | exact envNil | refine envCons rfl ?_)) (by repeat (first | exact envNil | refine envCons rfl ?_)) (by repeat (first | exact subPnil | refine subPcons 0 rfl ?_))
  · skip
    refine AW.seq ?_
    refine AW.seq ?_
    refine AW.region ?_
    refine AO.op (O.move rfl rfl) rfl rfl rfl ?_
    refine AO.op (O.nilCheck rfl rfl) rfl rfl rfl ?_
    refine AO.op (O.fieldAddr rfl rfl) rfl rfl rfl ?_
    refine AO.op (O.load rfl rfl (by repeat (first | exact List.Mem.head _ | refine List.Mem.tail _ ?_)) (by rfl)) rfl rfl rfl ?_
    refine AO.op (O.not rfl rfl (by rfl)) rfl rfl rfl ?_
    refine AO.op (O.move rfl rfl) rfl rfl rfl ?_
    refine AO.op (O.move rfl rfl) rfl rfl rfl ?_
    refine AO.op (O.move rfl rfl) rfl rfl rfl ?_
    (refine AO.callM1w (i := 1) rfl rfl Tryz.func99 rfl rfl rfl rfl rfl rfl (skip_yes ⟨#[]⟩ ‹_›) (by (dsimp only [List.set, List.cons_append, List.nil_append, List.take, List.drop]; done)) ?_)
    refine AO.op (O.not rfl rfl (by rfl)) rfl rfl rfl ?_
    refine AO.op (O.pickT rfl rfl rfl) rfl rfl rfl ?_
    refine AO.nil ?_
    refine AQ.thenN ?_
    refine AW.condF rfl ?_
    refine AW.g ?_
    refine G.freezeRow 0 rfl [9] (by repeat (first | exact frNil | refine frCons rfl ?_)) ?_
    refine AW.u ?_
    try dsimp only [List.map, List.eraseIdx, List.cons_append, List.nil_append]
    refine AW.exit ?_
    refine AQ.thenX ?_
    refine AQ.loopX ?_
    refine AQ.blockX rfl ?_
    refine AQ.thenN ?_
    refine AW.seq ?_
    refine AW.region ?_
    refine AO.op (O.move rfl rfl) rfl rfl rfl ?_
    refine AO.op (O.assign rfl rfl) rfl rfl rfl ?_
    refine AO.nil ?_
    refine AQ.thenN ?_
    refine AW.ret ?_
    refine AQ.ret1 rfl rfl ⟨_, by repeat (first | exact List.Sublist.slnil | refine List.Sublist.cons_cons _ ?_), List.Perm.refl _⟩ (⟨rfl, rfl⟩)
  skip
theorem item0_fn (B : Nat) (hB : B ≠ 0) : SpK GN Tryz.prog 80 [ptr B, .val (.int .i64 0)] [parsB B ⟨#[91, 49, 93]⟩ 0 false] (IsM (.agg (arrA 1 (uintA 0 1))) (parsB B ⟨#[]⟩ 2 false)) := by
  have p1 : PreN ⟨#[91, 49, 93]⟩ ⟨#[104, 39]⟩ := by decide +kernel
  have p2 : PreN ⟨#[91, 49, 93]⟩ ⟨#[34]⟩ := by decide +kernel
  have p3 : PreY ⟨#[91, 49, 93]⟩ ⟨#[91]⟩ ⟨#[49, 93]⟩ := by decide +kernel
  refine SpK.enter Tryz.func80 rfl _ Tryz.ntmps80 rfl (fun w0 R0 hK => ?_)
  refine AW.seq ?_
  refine AW.region ?_
  refine AO.opB (O.alloc rfl (by (dsimp only [zerosA, List.replicate, List.append, List.flatten, AV.cells, Value.cells, List.toList_toArray, List.map]; done)) (by rfl)) rfl rfl rfl ?_
  intro B1
  refine AO.nil ?_
  refine AQ.thenN ?_
  refine AW.seq ?_
  refine AW.region ?_
  refine AO.op (O.move rfl rfl) rfl rfl rfl ?_
  refine AO.op (O.nilCheck rfl rfl) rfl rfl rfl ?_
  refine AO.op (O.fieldAddr rfl rfl) rfl rfl rfl ?_
  refine AO.op (O.load rfl rfl (by repeat (first | exact List.Mem.head _ | refine List.Mem.tail _ ?_)) (by rfl)) rfl rfl rfl ?_
  refine AO.op (O.add rfl rfl rfl (by exact wI64 (by omega))) rfl rfl rfl ?_
  refine AO.op (O.nilCheck rfl rfl) rfl rfl rfl ?_
  refine AO.op (O.fieldAddr rfl rfl) rfl rfl rfl ?_
  (refine AO.store (i := 1) rfl rfl rfl rfl rfl rfl (by rfl) (by rfl) (by rfl) (by (dsimp only [List.set, List.cons_append, List.nil_append, List.take, List.drop]; done)) (by (dsimp only [List.set, List.cons_append, List.nil_append, List.take, List.drop]; done)) ?_)
  refine AO.nil ?_
  refine AQ.thenN ?_
  refine AW.seq ?_
  refine AW.seq ?_
  refine AW.region ?_
  refine AO.op (O.move rfl rfl) rfl rfl rfl ?_
  refine AO.op (O.nilCheck rfl rfl) rfl rfl rfl ?_
  refine AO.op (O.fieldAddr rfl rfl) rfl rfl rfl ?_
  refine AO.op (O.load rfl rfl (by repeat (first | exact List.Mem.head _ | refine List.Mem.tail _ ?_)) (by rfl)) rfl rfl rfl ?_
  refine AO.op (O.move rfl rfl) rfl rfl rfl ?_
  refine AO.op (O.move rfl rfl) rfl rfl rfl ?_
  refine AO.op (O.nilCheck rfl rfl) rfl rfl rfl ?_
  refine AO.op (O.fieldAddr rfl rfl) rfl rfl rfl ?_
  refine AO.op (O.load rfl rfl (by repeat (first | exact List.Mem.head _ | refine List.Mem.tail _ ?_)) (by rfl)) rfl rfl rfl ?_
  refine AO.op (O.gtr rfl rfl rfl (by exact bFalse (by omega))) rfl rfl rfl ?_
  refine AO.op (O.pickF rfl rfl rfl) rfl rfl rfl ?_
  refine AO.op (O.move rfl rfl) rfl rfl rfl ?_
  refine AO.op (O.move rfl rfl) rfl rfl rfl ?_
  refine AO.op (O.gtr rfl rfl rfl (by exact bFalse (by omega))) rfl rfl rfl ?_
  refine AO.op (O.pickF rfl rfl rfl) rfl rfl rfl ?_
  refine AO.nil ?_
  refine AQ.thenN ?_
  refine AW.condF rfl ?_
  refine AW.skip ?_
  refine AQ.thenN ?_
  refine AW.seq ?_
  refine AW.block ?_
  refine AW.seq ?_
  refine AW.region ?_
  refine AO.op (O.move rfl rfl) rfl rfl rfl ?_
  (refine AO.callM1 (i := 1) rfl rfl Tryz.func99 rfl rfl rfl rfl rfl rfl (skip_no ‹_›) (by (dsimp only [List.set, List.cons_append, List.nil_append, List.take, List.drop]; done)) ?_)
  refine AO.op (O.assign rfl rfl) rfl rfl rfl ?_
  refine AO.nil ?_
  refine AQ.thenN ?_
  refine AW.condF rfl ?_
  refine AW.seq ?_
  refine AW.region ?_
  refine AO.op (O.move rfl rfl) rfl rfl rfl ?_
  (refine AO.callM1 (i := 1) rfl rfl Tryz.func99 rfl rfl rfl rfl rfl rfl (skip_no ‹_›) (by (dsimp only [List.set, List.cons_append, List.nil_append, List.take, List.drop]; done)) ?_)
  refine AO.op (O.assign rfl rfl) rfl rfl rfl ?_
  refine AO.nil ?_
  refine AQ.thenN ?_
  refine AW.condF rfl ?_
  refine AW.seq ?_
  refine AW.region ?_
  refine AO.op (O.move rfl rfl) rfl rfl rfl ?_
  (refine AO.callM1 (i := 1) rfl rfl Tryz.func99 rfl rfl rfl rfl rfl rfl (skip_yes ⟨#[49, 93]⟩ ‹_›) (by (dsimp only [List.set, List.cons_append, List.nil_append, List.take, List.drop]; done)) ?_)
  refine AO.op (O.assign rfl rfl) rfl rfl rfl ?_
  refine AO.nil ?_
  refine AQ.thenN ?_
  refine AW.condT rfl ?_
  refine AW.seq ?_
  refine AW.region ?_
  refine AO.op (O.move rfl rfl) rfl rfl rfl ?_
  refine AO.op (O.move rfl rfl) rfl rfl rfl ?_
  refine AO.op (O.add rfl rfl rfl (by exact wI64 (by omega))) rfl rfl rfl ?_
  (refine AO.callK1 (i := 1) hK (notFoot_blk hB) rfl rfl Tryz.func102 rfl rfl rfl rfl rfl rfl (list1_fn B hB) (by (dsimp only [List.set, List.cons_append, List.nil_append, List.take, List.drop]; done)) ?_)
  refine AO.op (O.build rfl rfl rfl (by rfl)) rfl rfl rfl ?_
  (refine AO.store (i := 0) rfl rfl rfl rfl rfl rfl (by rfl) (by rfl) (by rfl) (by (dsimp only [List.set, List.cons_append, List.nil_append, List.take, List.drop]; done)) (by (dsimp only [List.set, List.cons_append, List.nil_append, List.take, List.drop]; done)) ?_)
  refine AO.nil ?_
  refine AQ.thenN ?_
  refine AW.ret ?_
  refine AQ.blockR ?_
  refine AQ.thenR ?_
  refine AQ.retCell rfl rfl (by repeat (exact List.Mem.head _)) (by rfl) rfl ⟨_, by repeat (first | exact List.Sublist.slnil | refine List.Sublist.cons_cons _ ?_ | refine List.Sublist.cons _ ?_), List.Perm.refl _⟩ (⟨rfl, rfl⟩)
/-! ### Texts written -/
abbrev itA (k n : Int) (b : List UInt8) (m : Nat) (xs : List AV) : AV := .agg [.val (.int .i64 k), .val (.int .u64 n), roB b, .ro false m xs]
theorem put1_fn (V : Value) (l : List UInt8) (hl : l.length ≤ 1000) : Sp Tryz.prog 78 [.val V, itA 0 1 [] 0 []] [.row V 5 1 l.length (bytesA l)] (RowB 5 (l ++ [49])) := by
  refine Sp.enter Tryz.func78 rfl _ Tryz.ntmps78 rfl (fun w0 R0 => ?_)
  refine AW.seq ?_
  refine AW.region ?_
  refine AO.opB (O.box rfl rfl rfl rfl rfl) rfl rfl rfl ?_
  intro B1
  refine AO.op (O.assign rfl rfl) rfl rfl rfl ?_
  refine AO.nil ?_
  refine AQ.thenN ?_
  refine AW.seq ?_
  refine AW.seq ?_
  refine AW.region ?_
  refine AO.op (O.fieldAddr rfl rfl) rfl rfl rfl ?_
  refine AO.op (O.load rfl rfl (by repeat (exact List.Mem.head _)) (by rfl)) rfl rfl rfl ?_
  refine AO.nil ?_
  refine AQ.thenN ?_
  refine AW.block ?_
  refine AW.seq ?_
  refine AW.region ?_
  refine AO.op (O.eql rfl rfl rfl (by exact beq_iff_eq.2 (by omega))) rfl rfl rfl ?_
  refine AO.op (O.assign rfl rfl) rfl rfl rfl ?_
  refine AO.nil ?_
  refine AQ.thenN ?_
  refine AW.condT rfl ?_
  refine AW.seq ?_
  refine AW.region ?_
  refine AO.op (O.move rfl rfl) rfl rfl rfl ?_
  refine AO.op (O.fieldAddr rfl rfl) rfl rfl rfl ?_
  refine AO.op (O.load rfl rfl (by repeat (exact List.Mem.head _)) (by rfl)) rfl rfl rfl ?_
  refine AO.callMG 1 rfl rfl Tryz.func96 rfl rfl rfl rfl rfl rfl (app_fn V l 1 hl ⟨by omega, by omega⟩) ?_
  rintro _ _ ⟨V2, hV2, rfl, rfl⟩
  dsimp only [List.cons_append, List.nil_append, List.eraseIdx]
  refine AO.op (O.assign rfl rfl) rfl rfl rfl ?_
  refine AO.nil ?_
  refine AQ.thenN ?_
  refine AW.ret ?_
  refine AQ.blockR ?_
  refine AQ.thenR ?_
  refine AQ.ret1 rfl rfl ⟨_, by repeat (first | exact List.Sublist.slnil | refine List.Sublist.cons_cons _ ?_ | refine List.Sublist.cons _ ?_), List.Perm.refl _⟩ (retRB hV2 rfl rfl)
theorem putN_fn : Sp Tryz.prog 78 [.val (.slice none 0 0), itA 1 2 [] 0 []] [] (Is (roB [45, 51])) := by
  refine Sp.enter Tryz.func78 rfl _ Tryz.ntmps78 rfl (fun w0 R0 => ?_)
  refine AW.seq ?_
  refine AW.region ?_
  refine AO.opB (O.box rfl rfl rfl rfl rfl) rfl rfl rfl ?_
  intro B1
  refine AO.op (O.assign rfl rfl) rfl rfl rfl ?_
  refine AO.nil ?_
  refine AQ.thenN ?_
  refine AW.seq ?_
  refine AW.seq ?_
  refine AW.region ?_
  refine AO.op (O.fieldAddr rfl rfl) rfl rfl rfl ?_
  refine AO.op (O.load rfl rfl (by repeat (exact List.Mem.head _)) (by rfl)) rfl rfl rfl ?_
  refine AO.nil ?_
  refine AQ.thenN ?_
  refine AW.block ?_
  refine AW.seq ?_
  refine AW.region ?_
  refine AO.op (O.eql rfl rfl rfl (by exact beq_eq_false_iff_ne.2 (by omega))) rfl rfl rfl ?_
  refine AO.op (O.assign rfl rfl) rfl rfl rfl ?_
  refine AO.nil ?_
  refine AQ.thenN ?_
  refine AW.condF rfl ?_
  refine AW.seq ?_
  refine AW.region ?_
  refine AO.op (O.eql rfl rfl rfl (by exact beq_iff_eq.2 (by omega))) rfl rfl rfl ?_
  refine AO.op (O.assign rfl rfl) rfl rfl rfl ?_
  refine AO.nil ?_
  refine AQ.thenN ?_
  refine AW.condT rfl ?_
  refine AW.seq ?_
  refine AW.seq ?_
  refine AW.region ?_
  refine AO.op (O.fieldAddr rfl rfl) rfl rfl rfl ?_
  refine AO.op (O.load rfl rfl (by repeat (exact List.Mem.head _)) (by rfl)) rfl rfl rfl ?_
  refine AO.op (O.eql rfl rfl rfl (by exact beq_eq_false_iff_ne.2 (by omega))) rfl rfl rfl ?_
  refine AO.nil ?_
  refine AQ.thenN ?_
  refine AW.condF rfl ?_
  refine AW.g ?_
  refine G.nilRow 5 1 ?_
  refine AW.u ?_
  refine AW.skip ?_
  refine AQ.thenN ?_
  refine AW.seq ?_
  refine AW.regionM [(0, false), (1, false), (3, false), (4, false), (5, false), (2, true), (6, true), (7, false)] (by kernel_rfl) (by kernel_rfl) (by exact (by exact splitRow 0 0 rfl rfl splitNil)) ?_
  dsimp only [List.eraseIdx]
  refine AM.op rfl (O.move rfl rfl) rfl rfl rfl ?_
  refine AM.op rfl (OpW.frz (O.buildSlice rfl rfl rfl (by rfl) (by rfl) (by rfl) (by rfl)) (by (unfold maxLen; omega))) rfl rfl rfl ?_
  refine AM.op rfl (O.fieldAddr rfl rfl) rfl rfl rfl ?_
  refine AM.op rfl (O.load rfl rfl (by repeat (exact List.Mem.head _)) (by rfl)) rfl rfl rfl ?_
  refine AM.op rfl (O.add rfl rfl rfl (by exact wU64 (by omega))) rfl rfl rfl ?_
  refine AM.main _ rfl (fun w0 R0 => ?_)
  (refine AO.append' (i := 0) rfl rfl rfl rfl (by rfl) (by rfl) rfl rfl rfl (by exact SrcA.ro TyD.ax (by rfl) (Nat.le_of_ble_eq_true rfl)) (by rfl) (by (unfold maxLen; omega)) (by omega) (by (dsimp only [List.set, List.cons_append, List.nil_append, List.take, List.drop]; done)) (fun _ => by (dsimp only [List.set]; done)) ?_)
  intro V2 hV2
  refine AM.ok ?_
  dsimp only [putE]
  refine AM.main _ rfl (fun w0 R0 => ?_)
  refine AO.callMG 0 rfl rfl Tryz.func96 rfl rfl rfl rfl rfl rfl (app_fn _ [45] 3 (by decide) ⟨by omega, by omega⟩) ?_
  rintro _ _ ⟨V3, hV3, rfl, rfl⟩
  dsimp only [List.cons_append, List.nil_append, List.eraseIdx]
  refine AM.ok ?_
  dsimp only [putE]
  refine AM.op rfl (O.assign rfl rfl) rfl rfl rfl ?_
  refine AM.nil ?_
  dsimp only [List.cons_append, List.nil_append]
  refine AQ.thenN ?_
  refine AW.ret ?_
  refine AQ.blockR ?_
  refine AQ.thenR ?_
  refine AQ.g ?_
  refine G.freezeRow 0 rfl [4] (by repeat (first | exact frNil | refine frCons rfl ?_)) ?_
  refine AQ.u ?_
  try dsimp only [List.map, List.eraseIdx, List.cons_append, List.nil_append]
  refine AQ.ret1 rfl rfl ⟨_, List.nil_sublist _, .nil⟩ (⟨rfl, rfl⟩)
abbrev uintR (n : Int) : List AV := [.val (.int .i64 0), .val (.int .u64 n), roB [], .ro false 0 []]
theorem putA_fn : Sp Tryz.prog 78 [.val (.slice none 0 0), itA 4 0 [] 1 (uintR 1)] [] (Is (roB [91, 49, 93])) := by
  refine Sp.enter Tryz.func78 rfl _ Tryz.ntmps78 rfl (fun w0 R0 => ?_)
  refine AW.seq ?_
  refine AW.region ?_
  refine AO.opB (O.box rfl rfl rfl rfl rfl) rfl rfl rfl ?_
  intro B1
  refine AO.op (O.assign rfl rfl) rfl rfl rfl ?_
  refine AO.nil ?_
  refine AQ.thenN ?_
  refine AW.seq ?_
  refine AW.seq ?_
  refine AW.region ?_
  refine AO.op (O.fieldAddr rfl rfl) rfl rfl rfl ?_
  refine AO.op (O.load rfl rfl (by repeat (exact List.Mem.head _)) (by rfl)) rfl rfl rfl ?_
  refine AO.nil ?_
  refine AQ.thenN ?_
  refine AW.block ?_
  refine AW.seq ?_
  refine AW.region ?_
  refine AO.op (O.eql rfl rfl rfl (by exact beq_eq_false_iff_ne.2 (by omega))) rfl rfl rfl ?_
  refine AO.op (O.assign rfl rfl) rfl rfl rfl ?_
  refine AO.nil ?_
  refine AQ.thenN ?_
  refine AW.condF rfl ?_
  refine AW.seq ?_
  refine AW.region ?_
  refine AO.op (O.eql rfl rfl rfl (by exact beq_eq_false_iff_ne.2 (by omega))) rfl rfl rfl ?_
  refine AO.op (O.assign rfl rfl) rfl rfl rfl ?_
  refine AO.nil ?_
  refine AQ.thenN ?_
  refine AW.condF rfl ?_
  refine AW.seq ?_
  refine AW.region ?_
  refine AO.op (O.eql rfl rfl rfl (by exact beq_eq_false_iff_ne.2 (by omega))) rfl rfl rfl ?_
  refine AO.op (O.assign rfl rfl) rfl rfl rfl ?_
  refine AO.nil ?_
  refine AQ.thenN ?_
  refine AW.condF rfl ?_
  refine AW.seq ?_
  refine AW.region ?_
  refine AO.op (O.eql rfl rfl rfl (by exact beq_eq_false_iff_ne.2 (by omega))) rfl rfl rfl ?_
  refine AO.op (O.assign rfl rfl) rfl rfl rfl ?_
  refine AO.nil ?_
  refine AQ.thenN ?_
  refine AW.condF rfl ?_
  refine AW.seq ?_
  refine AW.region ?_
  refine AO.op (O.eql rfl rfl rfl (by exact beq_eq_false_iff_ne.2 (by omega))) rfl rfl rfl ?_
  refine AO.op (O.assign rfl rfl) rfl rfl rfl ?_
  refine AO.nil ?_
  refine AQ.thenN ?_
  refine AW.condF rfl ?_
  refine AW.seq ?_
  refine AW.region ?_
  refine AO.op (O.eql rfl rfl rfl (by exact beq_eq_false_iff_ne.2 (by omega))) rfl rfl rfl ?_
  refine AO.op (O.assign rfl rfl) rfl rfl rfl ?_
  refine AO.nil ?_
  refine AQ.thenN ?_
  refine AW.condF rfl ?_
  refine AW.seq ?_
  refine AW.region ?_
  refine AO.op (O.eql rfl rfl rfl (by exact beq_eq_false_iff_ne.2 (by omega))) rfl rfl rfl ?_
  refine AO.op (O.assign rfl rfl) rfl rfl rfl ?_
  refine AO.nil ?_
  refine AQ.thenN ?_
  refine AW.condF rfl ?_
  refine AW.skip ?_
  refine AQ.blockN ?_
  refine AQ.thenN ?_
  refine AW.seq ?_
  refine AW.region ?_
  refine AO.op (O.assign rfl rfl) rfl rfl rfl ?_
  refine AO.op (O.assign rfl rfl) rfl rfl rfl ?_
  refine AO.nil ?_
  refine AQ.thenN ?_
  refine AW.seq ?_
  refine AW.seq ?_
  refine AW.region ?_
  refine AO.op (O.fieldAddr rfl rfl) rfl rfl rfl ?_
  refine AO.op (O.load rfl rfl (by repeat (exact List.Mem.head _)) (by rfl)) rfl rfl rfl ?_
  refine AO.op (O.eql rfl rfl rfl (by exact beq_eq_false_iff_ne.2 (by omega))) rfl rfl rfl ?_
  refine AO.nil ?_
  refine AQ.thenN ?_
  refine AW.condF rfl ?_
  refine AW.g ?_
  refine G.nilRow 5 1 ?_
  refine AW.u ?_
  refine AW.skip ?_
  refine AQ.thenN ?_
  refine AW.seq ?_
  refine AW.region ?_
  refine AO.op (O.move rfl rfl) rfl rfl rfl ?_
  refine AO.op (O.move rfl rfl) rfl rfl rfl ?_
  refine AO.opB (O.buildSlice rfl rfl rfl (by rfl) (by rfl) (by rfl) (by rfl)) rfl rfl rfl ?_
  intro B2
  refine AO.g ?_
  (refine G.freezeSl 0 112 rfl rfl ⟨Nat.le_refl _, by unfold maxLen; omega⟩ ?_)
  refine G.unfull 112 rfl ?_
  refine AO.u ?_
  dsimp only [List.eraseIdx]
  (refine AO.append' (i := 0) rfl rfl rfl rfl (by rfl) (by rfl) rfl rfl rfl (by exact SrcA.ro TyD.ax (by rfl) (Nat.le_of_ble_eq_true rfl)) (by rfl) (by (unfold maxLen; omega)) (by omega) (by (dsimp only [List.set, List.cons_append, List.nil_append, List.take, List.drop]; done)) (fun _ => by (dsimp only [List.set]; done)) ?_)
  intro V3 hV3
  refine AO.op (O.assign rfl rfl) rfl rfl rfl ?_
  refine AO.nil ?_
  refine AQ.thenN ?_
  refine AW.seq ?_
  refine AW.seq ?_
  refine AW.region ?_
  refine AO.op (O.fieldAddr rfl rfl) rfl rfl rfl ?_
  refine AO.op (O.load rfl rfl (by repeat (first | exact List.Mem.head _ | refine List.Mem.tail _ ?_)) (by rfl)) rfl rfl rfl ?_
  refine AO.op (O.lenR rfl rfl) rfl rfl rfl ?_
  refine AO.op (O.move rfl rfl) rfl rfl rfl ?_
  refine AO.nil ?_
  refine AQ.thenN ?_
  refine AW.block ?_
  refine AW.loopK [(3, _), (7, _), (115, _), (116, _)] (fun nn E H => ∃ (k : Nat) (V : Value) (n : Nat) (xs : List AV), (V.oneCell' = true) ∧ ((k = 0 ∧ n = 1 ∧ xs = bytesA [91]) ∨ (k = 1 ∧ n = 2 ∧ xs = bytesA [91, 49])) ∧ nn = 1 - k ∧ E = [(0, .val V), (117, .val (.int .i64 (k : Int)))] ∧ H = [.row V 5 1 n xs, .blk B1 100 4 [.val (.int .i64 4), .val (.int .u64 0), roB [], .ro false 1 (uintR 1)]]) _ (⟨0, _, _, _, ‹_›, .inl ⟨rfl, rfl, rfl⟩, rfl, rfl, rfl⟩) (by repeat (first | exact envNil | refine envCons rfl ?_)) (by repeat (first | exact envNil | refine envCons rfl ?_)) (by repeat (first | exact subPnil | refine subPcons 0 rfl ?_)) ?_
  rintro nn E H ⟨k, V, n, xs, hV, hc, rfl, rfl, rfl⟩
  dsimp only [List.cons_append, List.nil_append]
  obtain ⟨rfl, rfl, rfl⟩ | ⟨rfl, rfl, rfl⟩ := hc
  · skip
    refine AW.seq ?_
    refine AW.region ?_
    refine AO.op (O.lss rfl rfl rfl (by exact bTrue (by omega))) rfl rfl rfl ?_
    refine AO.nil ?_
    refine AQ.thenN ?_
    refine AW.seq ?_
    refine AW.condT rfl ?_
    refine AW.skip ?_
    refine AQ.thenN ?_
    refine AW.seq ?_
    refine AW.block ?_
    refine AW.seq ?_
    refine AW.region ?_
    refine AO.op (O.move rfl rfl) rfl rfl rfl ?_
    refine AO.op (O.idxR rfl rfl rfl ⟨(by omega), (by omega)⟩) rfl rfl rfl ?_
    (refine AO.op (O.loadRK rfl rfl (by (dsimp only [List.set, List.cons_append, List.nil_append, List.take, List.drop]; done)) (by rfl)) rfl rfl rfl ?_)
    refine AO.opB (O.alloc rfl (by (dsimp only [zerosA, List.replicate, List.append, List.flatten, AV.cells, Value.cells, List.toList_toArray, List.map]; done)) (by rfl)) rfl rfl rfl ?_
    intro B4
    refine AO.op (O.assign rfl rfl) rfl rfl rfl ?_
    (refine AO.store (i := 0) rfl rfl rfl rfl rfl rfl (by rfl) (by rfl) (by rfl) (by (dsimp only [List.set, List.cons_append, List.nil_append, List.take, List.drop]; done)) (by (dsimp only [List.set, List.cons_append, List.nil_append, List.take, List.drop]; done)) ?_)
    refine AO.nil ?_
    refine AQ.thenN ?_
    refine AW.seq ?_
    refine AW.block ?_
    refine AW.seq ?_
    refine AW.region ?_
    refine AO.op (O.fieldAddr rfl rfl) rfl rfl rfl ?_
    refine AO.op (O.load rfl rfl (by repeat (first | exact List.Mem.head _ | refine List.Mem.tail _ ?_)) (by rfl)) rfl rfl rfl ?_
    refine AO.op (O.eql rfl rfl rfl (by exact beq_eq_false_iff_ne.2 (by omega))) rfl rfl rfl ?_
    refine AO.op (O.move rfl rfl) rfl rfl rfl ?_
    refine AO.no rfl rfl rfl ?_
    refine AO.no rfl rfl rfl ?_
    refine AO.no rfl rfl rfl ?_
    refine AO.op (O.pickF rfl rfl rfl) rfl rfl rfl ?_
    refine AO.op (O.assign rfl rfl) rfl rfl rfl ?_
    refine AO.nil ?_
    refine AQ.thenN ?_
    refine AW.condF rfl ?_
    refine AW.seq ?_
    refine AW.region ?_
    refine AO.op (O.move rfl rfl) rfl rfl rfl ?_
    refine AO.op (O.gtr rfl rfl rfl (by exact bFalse (by omega))) rfl rfl rfl ?_
    refine AO.op (O.assign rfl rfl) rfl rfl rfl ?_
    refine AO.nil ?_
    refine AQ.thenN ?_
    refine AW.condF rfl ?_
    refine AW.skip ?_
    refine AQ.blockN ?_
    refine AQ.thenN ?_
    refine AW.region ?_
    refine AO.op (O.move rfl rfl) rfl rfl rfl ?_
    (refine AO.op (O.loadK rfl rfl (by repeat (exact List.Mem.head _)) (by (dsimp only [List.set, List.cons_append, List.nil_append, List.take, List.drop]; done)) (by rfl)) rfl rfl rfl ?_)
    refine AO.callMG 1 rfl rfl Tryz.func78 rfl rfl rfl rfl rfl rfl (put1_fn _ [91] (by decide)) ?_
    rintro _ _ ⟨V5, hV5, rfl, rfl⟩
    dsimp only [List.cons_append, List.nil_append, List.eraseIdx]
    refine AO.op (O.assign rfl rfl) rfl rfl rfl ?_
    refine AO.nil ?_
    refine AQ.blockN ?_
    refine AQ.thenN ?_
    refine AW.region ?_
    refine AO.op (O.add rfl rfl rfl (by exact wI64 (by omega))) rfl rfl rfl ?_
    refine AO.op (O.move rfl rfl) rfl rfl rfl ?_
    refine AO.nil ?_
    refine AQ.loopKN _ _ _ (by omega) (⟨1, _, _, _, ‹_›, .inr ⟨rfl, rfl, rfl⟩, rfl, rfl, rfl⟩) (by repeat (first | exact envNil | refine envCons rfl ?_)) (by repeat (first | exact envNil | refine envCons rfl ?_)) (by repeat (first | exact subPnil | refine subPcons 0 rfl ?_ | refine subPcons 1 rfl ?_))
  · skip
    refine AW.seq ?_
    refine AW.region ?_
    refine AO.op (O.lss rfl rfl rfl (by exact bFalse (by omega))) rfl rfl rfl ?_
    refine AO.nil ?_
    refine AQ.thenN ?_
    refine AW.seq ?_
    refine AW.condF rfl ?_
    refine AW.exit ?_
    refine AQ.thenX ?_
    refine AQ.loopX ?_
    refine AQ.blockX rfl ?_
    refine AQ.thenN ?_
    refine AW.seq ?_
    refine AW.region ?_
    refine AO.op (O.move rfl rfl) rfl rfl rfl ?_
    refine AO.op (O.move rfl rfl) rfl rfl rfl ?_
    refine AO.opB (O.buildSlice rfl rfl rfl (by rfl) (by rfl) (by rfl) (by rfl)) rfl rfl rfl ?_
    intro B4
    refine AO.g ?_
    (refine G.freezeSl 0 144 rfl rfl ⟨Nat.le_refl _, by unfold maxLen; omega⟩ ?_)
    refine G.unfull 144 rfl ?_
    refine AO.u ?_
    dsimp only [List.eraseIdx]
    (refine AO.append' (i := 0) rfl rfl rfl rfl (by rfl) (by rfl) rfl rfl rfl (by exact SrcA.ro TyD.ax (by rfl) (Nat.le_of_ble_eq_true rfl)) (by rfl) (by (unfold maxLen; omega)) (by omega) (by (dsimp only [List.set, List.cons_append, List.nil_append, List.take, List.drop]; done)) (fun _ => by (dsimp only [List.set]; done)) ?_)
    intro V5 hV5
    refine AO.op (O.assign rfl rfl) rfl rfl rfl ?_
    refine AO.nil ?_
    refine AQ.thenN ?_
    refine AW.ret ?_
    refine AQ.g ?_
    refine G.freezeRow 0 rfl [4] (by repeat (first | exact frNil | refine frCons rfl ?_)) ?_
    refine AQ.u ?_
    try dsimp only [List.map, List.eraseIdx, List.cons_append, List.nil_append]
    refine AQ.ret1 rfl rfl ⟨_, List.nil_sublist _, .nil⟩ (⟨rfl, rfl⟩)
  skip
end Go.Proofs.YtoonnnifelnaiaaGreatDoor.By
