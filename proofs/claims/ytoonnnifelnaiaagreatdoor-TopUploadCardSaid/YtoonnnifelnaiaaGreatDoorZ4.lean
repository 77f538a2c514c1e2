/-
  Texts laid together (part 4): what the statement's walk and plain law need. No condition.
-/
import Derived.ChangeSame
import Derived.JoinedOf
import Derived.JoinedAt
import Derived.RowKit3
import Derived.ReadAgain
import Derived.Deep.Slices
import Derived.ChangeSlices
import Derived.Test.YtoonnnifelnaiaaGreatDoorZ3
namespace Go.Proofs.YtoonnnifelnaiaaGreatDoor.By
open Go.RowKit L A
set_option linter.unusedVariables false
set_option maxRecDepth 20000
set_option linter.unusedSimpArgs false
attribute [local irreducible] AW AQ AO
abbrev RecvOk (e : Ep) (p : Int) (m : Msg) (now : Int) : Prop := ValE e ∧ TimeOk now ∧ PeerOk p ∧ ValM m
def gotR (c : Ep) (p : Int) (m : Msg) (now : Int) : Ep × Int × Msg × Int := match c.inn.findIdx? (hB p m.id) with
 | some i => (c, 2, (hd c.inn i).m, 0)
 | none => if 16 ≤ c.inn.length then (c, 6, Msg.none, 0) else (⟨c.next, c.out, c.used, c.inn ++ [⟨p, m.id, now + 128, false, Msg.none⟩]⟩, 1, Msg.none, 0)
def recvR (e : Ep) (p : Int) (m : Msg) (now : Int) : Ep × Int × Msg × Int :=
 if RecvOk e p m now then
  if m.ty = 2 ∨ m.ty = 3 then endR (cleanE e now) p m
  else if m.code = 0 then (cleanE e now, 5, if m.ty = 0 then ⟨3, 0, m.id, [], [], []⟩ else Msg.none, 0)
  else gotR (cleanE e now) p m now
 else (Ep.none, 0, Msg.none, 1)
theorem endR_shape (c : Ep) (p : Int) (m : Msg) : endR c p m = (⟨c.next, (endR c p m).1.out, c.used, c.inn⟩, (endR c p m).2.1, Msg.none, 0) := by
 unfold endR
 cases c.out.findIdx? (wB p m.id) <;> rfl
abbrev resV (r : Ep × Int × Msg × Int) : AV := .tup [aggE r.1, .val (.int .i64 r.2.1), aggM r.2.2.1, .val (.int .i64 r.2.2.2)]
theorem ret4V {q : AV} {r : Ep × Int × Msg × Int} {a : Ep} {b : Int} {c : Msg} {d : Int} (h : r = (a, b, c, d)) (hq : q = .tup [aggE a, .val (.int .i64 b), aggM c, .val (.int .i64 d)]) : Is (resV r) q [] := by subst h; exact ⟨hq, rfl⟩
set_option maxHeartbeats 4000000 in
theorem recv_fn (e : Ep) (p : Int) (m : Msg) (now : Int) (hb : BdE e) : Sp Tryz.prog 21 [aggE e, .val (.int .i64 p), aggM m, .val (.int .i64 now)] [] (Is (resV (recvR e p m now))) := by
 refine Sp.enter Tryz.func21 rfl _ Tryz.ntmps21 rfl (fun w0 R0 => ?_)
 refine AW.seq ?_
 refine AW.region ?_
 refine AO.opB (O.box rfl rfl rfl rfl rfl) rfl rfl rfl ?_
 intro B1
 refine AO.opB (O.box rfl rfl rfl rfl rfl) rfl rfl rfl ?_
 intro B2
 refine AO.opB (O.alloc rfl (by (dsimp only [zerosA, List.replicate, List.append, List.flatten, AV.cells, Value.cells, List.toList_toArray, List.map]; done)) (by rfl)) rfl rfl rfl ?_
 intro B3
 refine AO.op (O.assign rfl rfl) rfl rfl rfl ?_
 refine AO.opB (O.alloc rfl (by (dsimp only [zerosA, List.replicate, List.append, List.flatten, AV.cells, Value.cells, List.toList_toArray, List.map]; done)) (by rfl)) rfl rfl rfl ?_
 intro B4
 refine AO.op (O.assign rfl rfl) rfl rfl rfl ?_
 refine AO.nil ?_
 refine AQ.thenN ?_
 refine AW.seq ?_
 refine AW.seq ?_
 refine AW.region ?_
 (refine AO.op (O.loadK rfl rfl (by repeat (first | exact List.Mem.head _ | refine List.Mem.tail _ ?_)) (by (dsimp only [List.set, List.append, List.cons_append, List.nil_append, AV.cells, splice, List.take, List.drop, Nat.reduceAdd]; done)) (by rfl)) rfl rfl rfl ?_)
 refine AO.op (O.call rfl Tryz.func50 rfl rfl rfl (evalid_fn e hb)) rfl rfl rfl ?_
 refine AO.op (O.not rfl rfl (by rfl)) rfl rfl rfl ?_
 refine AO.op (O.move rfl rfl) rfl rfl rfl ?_
 refine AO.opG rfl rfl rfl (fun hp => O.move rfl rfl) ?_
 refine AO.opG rfl rfl rfl (fun hp => OpW.force 19 rfl (by exact hp) (O.call rfl Tryz.func51 rfl rfl rfl (timeOK_fn _))) ?_
 refine AO.opG rfl rfl rfl (fun hp => OpW.force 20 rfl (by exact hp) (O.not rfl rfl (by rfl))) ?_
 refine AO.op (O.pickOr rfl rfl rfl rfl (fun h => by exact congrArg (fun b => !b) h)) rfl rfl rfl ?_
 refine AO.op (O.move rfl rfl) rfl rfl rfl ?_
 refine AO.opG rfl rfl rfl (fun hp => O.move rfl rfl) ?_
 refine AO.opG rfl rfl rfl (fun hp => OpW.force 24 rfl (by exact hp) (O.call rfl Tryz.func52 rfl rfl rfl (peerOK_fn _))) ?_
 refine AO.opG rfl rfl rfl (fun hp => OpW.force 25 rfl (by exact hp) (O.not rfl rfl (by rfl))) ?_
 refine AO.op (O.pickOr rfl rfl rfl rfl (fun h => by exact congrArg (fun b => !b) h)) rfl rfl rfl ?_
 refine AO.op (O.move rfl rfl) rfl rfl rfl ?_
 (refine AO.opG rfl rfl rfl (fun hp => O.loadK rfl rfl (by repeat (first | exact List.Mem.head _ | refine List.Mem.tail _ ?_)) (by (dsimp only [List.set, List.append, List.cons_append, List.nil_append, AV.cells, splice, List.take, List.drop, Nat.reduceAdd]; done)) (by rfl)) ?_)
 refine AO.opG rfl rfl rfl (fun hp => OpW.force 29 rfl (by exact hp) (O.call rfl Tryz.func53 rfl rfl rfl (valid_fn m))) ?_
 refine AO.opG rfl rfl rfl (fun hp => OpW.force 30 rfl (by exact hp) (O.not rfl rfl (by rfl))) ?_
 refine AO.op (O.pickOr rfl rfl rfl rfl (fun h => by exact congrArg (fun b => !b) h)) rfl rfl rfl ?_
 refine AO.nil ?_
 refine AQ.thenN ?_
 refine AW.split rfl (fun h => ?_) (fun h => ?_) <;> (try simp only [decide_eq_true_eq, decide_eq_false_iff_not, beq_iff_eq, beq_eq_false_iff_ne, bne_iff_ne, bne_eq_false_iff_eq, Bool.not_eq_true', Bool.not_eq_false', Bool.not_eq_true, Bool.not_eq_false, ne_eq, Int.not_lt, Int.not_le, Bool.and_eq_true, Bool.or_eq_true, Bool.or_eq_false_iff, Bool.and_eq_false_imp, strOf_toList, Decidable.not_not] at h)
 ·skip
  have e1 : recvR e p m now = (Ep.none, 0, Msg.none, 1) := if_neg (by
   rintro ⟨h1, h2, h3, h4⟩
   rcases h with ((h | h) | h) | h
   ·exact h h1
   ·exact h h2
   ·exact h h3
   ·exact h h4)
  refine AW.seq ?_
  refine AW.region ?_
  refine AO.op (O.build rfl rfl rfl (by rfl)) rfl rfl rfl ?_
  refine AO.op (O.build rfl rfl rfl (by rfl)) rfl rfl rfl ?_
  (refine AO.store (i := 1) rfl rfl rfl rfl rfl rfl (by rfl) (by rfl) (by rfl) (by (dsimp only [List.set, List.append, List.cons_append, List.nil_append, AV.cells, splice, List.take, List.drop, Nat.reduceAdd]; done)) (by (dsimp only [List.set, List.append, List.cons_append, List.nil_append, AV.cells, splice, List.take, List.drop, Nat.reduceAdd]; done)) ?_)
  refine AO.op (O.assign rfl rfl) rfl rfl rfl ?_
  (refine AO.store (i := 0) rfl rfl rfl rfl rfl rfl (by rfl) (by rfl) (by rfl) (by (dsimp only [List.set, List.append, List.cons_append, List.nil_append, AV.cells, splice, List.take, List.drop, Nat.reduceAdd]; done)) (by (dsimp only [List.set, List.append, List.cons_append, List.nil_append, AV.cells, splice, List.take, List.drop, Nat.reduceAdd]; done)) ?_)
  refine AO.op (O.assign rfl rfl) rfl rfl rfl ?_
  refine AO.nil ?_
  refine AQ.thenN ?_
  refine AW.ret ?_
  refine AQ.thenR ?_
  refine FnQ.coe (AQ.ret4G rfl (by exact ResAt.cell rfl (by repeat (first | exact List.Mem.head _ | refine List.Mem.tail _ ?_)) (by (dsimp only [List.set, List.append, List.cons_append, List.nil_append, AV.cells, splice, List.take, List.drop, Nat.reduceAdd]; done)) (by rfl)) (by exact ResAt.tmp rfl) (by exact ResAt.cell rfl (by repeat (exact List.Mem.head _)) (by (dsimp only [List.set, List.append, List.cons_append, List.nil_append, AV.cells, splice, List.take, List.drop, Nat.reduceAdd]; done)) (by rfl)) (by exact ResAt.tmp rfl) ⟨_, List.nil_sublist _, .nil⟩ ⟨rfl, rfl⟩) (Coe.tup (by (repeat (first | exact CoeL.nil | refine CoeL.cons Coe.rfl ?_ | refine CoeL.cons Coe.nil ?_ | refine CoeL.cons (Coe.agg ?_) ?_)); done)) (ret4V e1 rfl)
 ·skip
  obtain ⟨⟨⟨hv, ht⟩, hp⟩, hvm⟩ := h
  have hok : RecvOk e p m now := ⟨hv, ht, hp, hvm⟩
  have hsm := ValE.sm hv
  have hv1 := hv.2.1
  have hv4 := hv.2.2.2.1
  have hci := clean_inn e now
  have h0 : recvR e p m now = _ := if_pos hok
  refine AW.skip ?_
  refine AQ.thenN ?_
  refine AW.seq ?_
  refine AW.region ?_
  (refine AO.op (O.loadK rfl rfl (by repeat (first | exact List.Mem.head _ | refine List.Mem.tail _ ?_)) (by (dsimp only [List.set, List.append, List.cons_append, List.nil_append, AV.cells, splice, List.take, List.drop, Nat.reduceAdd]; done)) (by rfl)) rfl rfl rfl ?_)
  refine AO.op (O.move rfl rfl) rfl rfl rfl ?_
  refine AO.opN (O.call rfl Tryz.func54 rfl rfl rfl (cleaned_fn e now hsm)) rfl rfl rfl ?_
  rintro _ _ ⟨V15, V25, V35, hV15, hV25, hV35, rfl, rfl⟩
  simp only [List.cons_append, List.nil_append]
  (refine AO.store (i := 6) rfl rfl rfl rfl rfl rfl (by (simp [AV.cells, AV.one, roB, roI, roO, show ∀ k z, (Value.int k z).oneCell' = true from fun _ _ => rfl, show ∀ k, (Value.bool k).oneCell' = true from fun _ => rfl, *]; done)) (by rfl) (by rfl) (by (dsimp only [List.set, List.append, List.cons_append, List.nil_append, AV.cells, splice, List.take, List.drop, Nat.reduceAdd]; done)) (by (dsimp only [List.set, List.append, List.cons_append, List.nil_append, AV.cells, splice, List.take, List.drop, Nat.reduceAdd]; done)) ?_)
  refine AO.nil ?_
  refine AQ.thenN ?_
  refine AW.seq ?_
  refine AW.seq ?_
  refine AW.region ?_
  refine AO.op (O.fieldAddr rfl rfl) rfl rfl rfl ?_
  refine AO.op (O.load rfl rfl (by repeat (first | exact List.Mem.head _ | refine List.Mem.tail _ ?_)) (by rfl)) rfl rfl rfl ?_
  refine AO.op (O.eql rfl rfl rfl (by rfl)) rfl rfl rfl ?_
  refine AO.op (O.move rfl rfl) rfl rfl rfl ?_
  refine AO.opG rfl rfl rfl (fun hp => O.fieldAddr rfl rfl) ?_
  refine AO.opG rfl rfl rfl (fun hp => OpW.force 42 rfl (by exact hp) (O.load rfl rfl (by repeat (first | exact List.Mem.head _ | refine List.Mem.tail _ ?_)) (by rfl))) ?_
  refine AO.opG rfl rfl rfl (fun hp => OpW.force 43 rfl (by exact hp) (O.eql rfl rfl rfl (by rfl))) ?_
  refine AO.op (O.pickOr rfl rfl rfl rfl (fun h => by exact congrArg (fun b => !b) h)) rfl rfl rfl ?_
  refine AO.nil ?_
  refine AQ.thenN ?_
  refine AW.split rfl (fun h2 => ?_) (fun h2 => ?_) <;> (try simp only [decide_eq_true_eq, decide_eq_false_iff_not, beq_iff_eq, beq_eq_false_iff_ne, bne_iff_ne, bne_eq_false_iff_eq, Bool.not_eq_true', Bool.not_eq_false', Bool.not_eq_true, Bool.not_eq_false, ne_eq, Int.not_lt, Int.not_le, Bool.and_eq_true, Bool.or_eq_true, Bool.or_eq_false_iff, Bool.and_eq_false_imp, strOf_toList, Decidable.not_not] at h2)
  ·skip
   have e1 : recvR e p m now = _ := (h0.trans (if_pos h2)).trans (endR_shape _ _ _)
   refine AW.seq ?_
   refine AW.region ?_
   (refine AO.op (O.loadK rfl rfl (by repeat (first | exact List.Mem.head _ | refine List.Mem.tail _ ?_)) (by (dsimp only [List.set, List.append, List.cons_append, List.nil_append, AV.cells, splice, List.take, List.drop, Nat.reduceAdd]; done)) (by rfl)) rfl rfl rfl ?_)
   refine AO.op (O.move rfl rfl) rfl rfl rfl ?_
   (refine AO.op (O.loadK rfl rfl (by repeat (first | exact List.Mem.head _ | refine List.Mem.tail _ ?_)) (by (dsimp only [List.set, List.append, List.cons_append, List.nil_append, AV.cells, splice, List.take, List.drop, Nat.reduceAdd]; done)) (by rfl)) rfl rfl rfl ?_)
   (refine AO.callMG 2 rfl rfl Tryz.func57 rfl rfl rfl rfl rfl rfl (ended_fn (cleanE e now) p m V15 V25 V35 hV15 hV25 hV35 (by rw [cleanE_out]; omega)) ?_)
   rintro _ _ ⟨V6, hV6, rfl, rfl⟩
   dsimp only [List.cons_append, List.nil_append, List.eraseIdx]
   refine AO.op (O.extract rfl rfl rfl) rfl rfl rfl ?_
   refine AO.op (O.extract rfl rfl rfl) rfl rfl rfl ?_
   refine AO.op (O.extract rfl rfl rfl) rfl rfl rfl ?_
   refine AO.op (O.extract rfl rfl rfl) rfl rfl rfl ?_
   (refine AO.store (i := 4) rfl rfl rfl rfl rfl rfl (by (simp [AV.cells, AV.one, roB, roI, roO, show ∀ k z, (Value.int k z).oneCell' = true from fun _ _ => rfl, show ∀ k, (Value.bool k).oneCell' = true from fun _ => rfl, *]; done)) (by rfl) (by rfl) (by (dsimp only [List.set, List.append, List.cons_append, List.nil_append, AV.cells, splice, List.take, List.drop, Nat.reduceAdd]; done)) (by (dsimp only [List.set, List.append, List.cons_append, List.nil_append, AV.cells, splice, List.take, List.drop, Nat.reduceAdd]; done)) ?_)
   refine AO.op (O.assign rfl rfl) rfl rfl rfl ?_
   (refine AO.store (i := 3) rfl rfl rfl rfl rfl rfl (by rfl) (by rfl) (by rfl) (by (dsimp only [List.set, List.append, List.cons_append, List.nil_append, AV.cells, splice, List.take, List.drop, Nat.reduceAdd]; done)) (by (dsimp only [List.set, List.append, List.cons_append, List.nil_append, AV.cells, splice, List.take, List.drop, Nat.reduceAdd]; done)) ?_)
   refine AO.op (O.assign rfl rfl) rfl rfl rfl ?_
   refine AO.nil ?_
   refine AQ.thenN ?_
   refine AW.ret ?_
   refine AQ.thenR ?_
   refine AQ.g ?_
   refine G.freezeCell 0 3 1 rfl rfl rfl ?_
   refine AQ.u ?_
   dsimp only [List.eraseIdx, List.set]
   refine AQ.g ?_
   refine G.freezeCell 0 2 3 rfl rfl rfl ?_
   refine AQ.u ?_
   dsimp only [List.eraseIdx, List.set]
   refine AQ.g ?_
   refine G.freezeCell 0 1 2 rfl rfl rfl ?_
   refine AQ.u ?_
   dsimp only [List.eraseIdx, List.set]
   refine FnQ.coe (AQ.ret4G rfl (by exact ResAt.cell rfl (by repeat (first | exact List.Mem.head _ | refine List.Mem.tail _ ?_)) (by (dsimp only [List.set, List.append, List.cons_append, List.nil_append, AV.cells, splice, List.take, List.drop, Nat.reduceAdd]; done)) (by rfl)) (by exact ResAt.tmp rfl) (by exact ResAt.cell rfl (by repeat (exact List.Mem.head _)) (by (dsimp only [List.set, List.append, List.cons_append, List.nil_append, AV.cells, splice, List.take, List.drop, Nat.reduceAdd]; done)) (by rfl)) (by exact ResAt.tmp rfl) ⟨_, List.nil_sublist _, .nil⟩ ⟨rfl, rfl⟩) (Coe.tup (by (repeat (first | exact CoeL.nil | refine CoeL.cons Coe.rfl ?_)); done)) (ret4V e1 rfl)
  ·skip
   have e2 : recvR e p m now = _ := h0.trans (if_neg (fun g => g.elim h2.1 h2.2))
   refine AW.skip ?_
   refine AQ.thenN ?_
   refine AW.seq ?_
   refine AW.seq ?_
   refine AW.region ?_
   refine AO.op (O.fieldAddr rfl rfl) rfl rfl rfl ?_
   refine AO.op (O.load rfl rfl (by repeat (first | exact List.Mem.head _ | refine List.Mem.tail _ ?_)) (by rfl)) rfl rfl rfl ?_
   refine AO.op (O.eql rfl rfl rfl (by rfl)) rfl rfl rfl ?_
   refine AO.nil ?_
   refine AQ.thenN ?_
   refine AW.split rfl (fun h3 => ?_) (fun h3 => ?_) <;> (try simp only [decide_eq_true_eq, decide_eq_false_iff_not, beq_iff_eq, beq_eq_false_iff_ne, bne_iff_ne, bne_eq_false_iff_eq, Bool.not_eq_true', Bool.not_eq_false', Bool.not_eq_true, Bool.not_eq_false, ne_eq, Int.not_lt, Int.not_le, Bool.and_eq_true, Bool.or_eq_true, Bool.or_eq_false_iff, Bool.and_eq_false_imp, strOf_toList, Decidable.not_not] at h3)
   ·skip
    have e3 : recvR e p m now = _ := e2.trans (if_pos h3)
    refine AW.seq ?_
    refine AW.region ?_
    refine AO.opB (O.alloc rfl (by (dsimp only [zerosA, List.replicate, List.append, List.flatten, AV.cells, Value.cells, List.toList_toArray, List.map]; done)) (by rfl)) rfl rfl rfl ?_
    intro B7
    refine AO.nil ?_
    refine AQ.thenN ?_
    refine AW.seq ?_
    refine AW.seq ?_
    refine AW.region ?_
    refine AO.op (O.fieldAddr rfl rfl) rfl rfl rfl ?_
    refine AO.op (O.load rfl rfl (by repeat (first | exact List.Mem.head _ | refine List.Mem.tail _ ?_)) (by rfl)) rfl rfl rfl ?_
    refine AO.op (O.eql rfl rfl rfl (by rfl)) rfl rfl rfl ?_
    refine AO.nil ?_
    refine AQ.thenN ?_
    refine AW.split rfl (fun h59 => ?_) (fun h59 => ?_) <;> (try simp only [decide_eq_true_eq, decide_eq_false_iff_not, beq_iff_eq, beq_eq_false_iff_ne, bne_iff_ne, bne_eq_false_iff_eq, Bool.not_eq_true', Bool.not_eq_false', Bool.not_eq_true, Bool.not_eq_false, ne_eq, Int.not_lt, Int.not_le, Bool.and_eq_true, Bool.or_eq_true, Bool.or_eq_false_iff, Bool.and_eq_false_imp, strOf_toList, Decidable.not_not] at h59)
    ·skip
     rw [if_pos h59] at e3
     refine AW.region ?_
     refine AO.op (O.fieldAddr rfl rfl) rfl rfl rfl ?_
     refine AO.op (O.load rfl rfl (by repeat (first | exact List.Mem.head _ | refine List.Mem.tail _ ?_)) (by rfl)) rfl rfl rfl ?_
     refine AO.op (O.build rfl rfl rfl (by rfl)) rfl rfl rfl ?_
     (refine AO.store (i := 0) rfl rfl rfl rfl rfl rfl (by rfl) (by rfl) (by rfl) (by (dsimp only [List.set, List.append, List.cons_append, List.nil_append, AV.cells, splice, List.take, List.drop, Nat.reduceAdd]; done)) (by (dsimp only [List.set, List.append, List.cons_append, List.nil_append, AV.cells, splice, List.take, List.drop, Nat.reduceAdd]; done)) ?_)
     refine AO.nil ?_
     refine AQ.thenN ?_
     refine AW.seq ?_
     refine AW.regionM [(0, false), (1, false), (2, true), (3, false), (4, true), (5, false)] (by kernel_rfl) (by kernel_rfl) (by exact (by exact splitBlk 8 5 rfl rfl (by exact splitBlk 10 4 rfl rfl splitNil))) ?_
     dsimp only [List.eraseIdx]
     (refine AM.op rfl (O.loadK rfl rfl (by repeat (first | exact List.Mem.head _ | refine List.Mem.tail _ ?_)) (by (dsimp only [List.set, List.append, List.cons_append, List.nil_append, AV.cells, splice, List.take, List.drop, Nat.reduceAdd]; done)) (by rfl)) rfl rfl rfl ?_)
     (refine AM.op rfl (O.loadK rfl rfl (by repeat (exact List.Mem.head _)) (by (dsimp only [List.set, List.append, List.cons_append, List.nil_append, AV.cells, splice, List.take, List.drop, Nat.reduceAdd]; done)) (by rfl)) rfl rfl rfl ?_)
     refine AM.main _ rfl (fun w0 R0 => ?_)
     (refine AO.store (i := 0) rfl rfl rfl rfl rfl rfl (by (simp [AV.cells, AV.one, roB, roI, roO, show ∀ k z, (Value.int k z).oneCell' = true from fun _ _ => rfl, show ∀ k, (Value.bool k).oneCell' = true from fun _ => rfl, *]; done)) (by rfl) (by rfl) (by (dsimp only [List.set, List.append, List.cons_append, List.nil_append, AV.cells, splice, List.take, List.drop, Nat.reduceAdd]; done)) (by (dsimp only [List.set, List.append, List.cons_append, List.nil_append, AV.cells, splice, List.take, List.drop, Nat.reduceAdd]; done)) ?_)
     refine AM.okN ?_
     dsimp only [putE]
     refine AM.op rfl (O.assign rfl rfl) rfl rfl rfl ?_
     refine AM.main _ rfl (fun w0 R0 => ?_)
     (refine AO.store (i := 1) rfl rfl rfl rfl rfl rfl (by rfl) (by rfl) (by rfl) (by (dsimp only [List.set, List.append, List.cons_append, List.nil_append, AV.cells, splice, List.take, List.drop, Nat.reduceAdd]; done)) (by (dsimp only [List.set, List.append, List.cons_append, List.nil_append, AV.cells, splice, List.take, List.drop, Nat.reduceAdd]; done)) ?_)
     refine AM.okN ?_
     dsimp only [putE]
     refine AM.op rfl (O.assign rfl rfl) rfl rfl rfl ?_
     refine AM.nil ?_
     dsimp only [List.cons_append, List.nil_append]
     refine AQ.thenN ?_
     refine AW.ret ?_
     refine AQ.thenR ?_
     refine AQ.g ?_
     refine G.freezeCell 3 0 3 rfl rfl rfl ?_
     refine AQ.u ?_
     dsimp only [List.eraseIdx, List.set]
     refine AQ.g ?_
     refine G.freezeCell 3 0 2 rfl rfl rfl ?_
     refine AQ.u ?_
     dsimp only [List.eraseIdx, List.set]
     refine AQ.g ?_
     refine G.freezeCell 3 0 1 rfl rfl rfl ?_
     refine AQ.u ?_
     dsimp only [List.eraseIdx, List.set]
     refine FnQ.coe (AQ.ret4G rfl (by exact ResAt.cell rfl (by repeat (exact List.Mem.head _)) (by (dsimp only [List.set, List.append, List.cons_append, List.nil_append, AV.cells, splice, List.take, List.drop, Nat.reduceAdd]; done)) (by rfl)) (by exact ResAt.tmp rfl) (by exact ResAt.cell rfl (by repeat (first | exact List.Mem.head _ | refine List.Mem.tail _ ?_)) (by (dsimp only [List.set, List.append, List.cons_append, List.nil_append, AV.cells, splice, List.take, List.drop, Nat.reduceAdd]; done)) (by rfl)) (by exact ResAt.tmp rfl) ⟨_, List.nil_sublist _, .nil⟩ ⟨rfl, rfl⟩) (Coe.tup (by (repeat (first | exact CoeL.nil | refine CoeL.cons Coe.rfl ?_ | refine CoeL.cons Coe.nil ?_ | refine CoeL.cons (Coe.agg ?_) ?_)); done)) (ret4V e3 rfl)
    ·skip
     rw [if_neg h59] at e3
     refine AW.skip ?_
     refine AQ.thenN ?_
     refine AW.seq ?_
     refine AW.regionM [(0, false), (1, false), (2, true), (3, false), (4, true), (5, false)] (by kernel_rfl) (by kernel_rfl) (by exact (by exact splitBlk 8 5 rfl rfl (by exact splitBlk 10 4 rfl rfl splitNil))) ?_
     dsimp only [List.eraseIdx]
     (refine AM.op rfl (O.loadK rfl rfl (by repeat (first | exact List.Mem.head _ | refine List.Mem.tail _ ?_)) (by (dsimp only [List.set, List.append, List.cons_append, List.nil_append, AV.cells, splice, List.take, List.drop, Nat.reduceAdd]; done)) (by rfl)) rfl rfl rfl ?_)
     (refine AM.op rfl (O.loadK rfl rfl (by repeat (exact List.Mem.head _)) (by (dsimp only [List.set, List.append, List.cons_append, List.nil_append, AV.cells, splice, List.take, List.drop, Nat.reduceAdd]; done)) (by rfl)) rfl rfl rfl ?_)
     refine AM.main _ rfl (fun w0 R0 => ?_)
     (refine AO.store (i := 0) rfl rfl rfl rfl rfl rfl (by (simp [AV.cells, AV.one, roB, roI, roO, show ∀ k z, (Value.int k z).oneCell' = true from fun _ _ => rfl, show ∀ k, (Value.bool k).oneCell' = true from fun _ => rfl, *]; done)) (by rfl) (by rfl) (by (dsimp only [List.set, List.append, List.cons_append, List.nil_append, AV.cells, splice, List.take, List.drop, Nat.reduceAdd]; done)) (by (dsimp only [List.set, List.append, List.cons_append, List.nil_append, AV.cells, splice, List.take, List.drop, Nat.reduceAdd]; done)) ?_)
     refine AM.okN ?_
     dsimp only [putE]
     refine AM.op rfl (O.assign rfl rfl) rfl rfl rfl ?_
     refine AM.main _ rfl (fun w0 R0 => ?_)
     (refine AO.store (i := 1) rfl rfl rfl rfl rfl rfl (by rfl) (by rfl) (by rfl) (by (dsimp only [List.set, List.append, List.cons_append, List.nil_append, AV.cells, splice, List.take, List.drop, Nat.reduceAdd]; done)) (by (dsimp only [List.set, List.append, List.cons_append, List.nil_append, AV.cells, splice, List.take, List.drop, Nat.reduceAdd]; done)) ?_)
     refine AM.okN ?_
     dsimp only [putE]
     refine AM.op rfl (O.assign rfl rfl) rfl rfl rfl ?_
     refine AM.nil ?_
     dsimp only [List.cons_append, List.nil_append]
     refine AQ.thenN ?_
     refine AW.ret ?_
     refine AQ.thenR ?_
     refine AQ.g ?_
     refine G.freezeCell 3 0 3 rfl rfl rfl ?_
     refine AQ.u ?_
     dsimp only [List.eraseIdx, List.set]
     refine AQ.g ?_
     refine G.freezeCell 3 0 2 rfl rfl rfl ?_
     refine AQ.u ?_
     dsimp only [List.eraseIdx, List.set]
     refine AQ.g ?_
     refine G.freezeCell 3 0 1 rfl rfl rfl ?_
     refine AQ.u ?_
     dsimp only [List.eraseIdx, List.set]
     refine FnQ.coe (AQ.ret4G rfl (by exact ResAt.cell rfl (by repeat (exact List.Mem.head _)) (by (dsimp only [List.set, List.append, List.cons_append, List.nil_append, AV.cells, splice, List.take, List.drop, Nat.reduceAdd]; done)) (by rfl)) (by exact ResAt.tmp rfl) (by exact ResAt.cell rfl (by repeat (first | exact List.Mem.head _ | refine List.Mem.tail _ ?_)) (by (dsimp only [List.set, List.append, List.cons_append, List.nil_append, AV.cells, splice, List.take, List.drop, Nat.reduceAdd]; done)) (by rfl)) (by exact ResAt.tmp rfl) ⟨_, List.nil_sublist _, .nil⟩ ⟨rfl, rfl⟩) (Coe.tup (by (repeat (first | exact CoeL.nil | refine CoeL.cons Coe.rfl ?_ | refine CoeL.cons Coe.nil ?_ | refine CoeL.cons (Coe.agg ?_) ?_)); done)) (ret4V e3 rfl)
   ·skip
    have e3 : recvR e p m now = _ := e2.trans (if_neg h3)
    refine AW.skip ?_
    refine AQ.thenN ?_
    refine AW.seq ?_
    refine AW.seq ?_
    refine AW.region ?_
    refine AO.op (O.fieldAddr rfl rfl) rfl rfl rfl ?_
    refine AO.op (O.load rfl rfl (by repeat (first | exact List.Mem.head _ | refine List.Mem.tail _ ?_)) (by rfl)) rfl rfl rfl ?_
    refine AO.op (O.lenRow rfl rfl (by repeat (exact List.Mem.head _))) rfl rfl rfl ?_
    refine AO.op (O.move rfl rfl) rfl rfl rfl ?_
    refine AO.nil ?_
    refine AQ.thenN ?_
    refine AW.block ?_
    refine AW.loopK [(1, _), (3, _), (4, _), (6, _), (8, _), (10, _), (66, _), (67, _)] (fun nn E H => ∃ (k : Nat), (k ≤ (cleanE e now).inn.length) ∧ (∀ q, q < k → hB p m.id (hd (cleanE e now).inn q) = false) ∧ nn = (cleanE e now).inn.length - k ∧ E = [(68, .val (.int .i64 (k : Int)))] ∧ H = [.row V35 126 10 (cleanE e now).inn.length (hdsA (cleanE e now).inn), .row V25 122 3 (cleanE e now).used.length (ussA (cleanE e now).used), .row V15 78 9 (cleanE e now).out.length (wtsA (cleanE e now).out), .blk B4 41 6 [.val (.int .i64 0), .val (.int .i64 0), .val (.int .i64 0), .val nilS, .val nilS, .val nilS], .blk B3 56 4 [.val (.int .i64 0), .val nilS, .val nilS, .val nilS], .blk B2 41 6 [.val (.int .i64 m.ty), .val (.int .i64 m.code), .val (.int .i64 m.id), roB m.tok, roO m.opts, roB m.pay], .blk B1 56 4 [.val (.int .i64 (cleanE e now).next), .val V15, .val V25, .val V35]]) _ (⟨0, by omega, fun q hq => absurd hq (by omega), rfl, rfl, rfl⟩) (by repeat (first | exact envNil | refine envCons rfl ?_)) (by repeat (first | exact envNil | refine envCons rfl ?_)) (by repeat (first | exact subPnil | refine subPcons 0 rfl ?_)) ?_
    rintro nn E H ⟨k, hk1, hn, rfl, rfl, rfl⟩
    dsimp only [List.cons_append, List.nil_append]
    refine AW.seq ?_
    refine AW.region ?_
    refine AO.op (O.lss rfl rfl rfl (by rfl)) rfl rfl rfl ?_
    refine AO.nil ?_
    refine AQ.thenN ?_
    refine AW.seq ?_
    refine AW.split rfl (fun hlt => ?_) (fun hlt => ?_) <;> (try simp only [decide_eq_true_eq, decide_eq_false_iff_not, beq_iff_eq, beq_eq_false_iff_ne, bne_iff_ne, bne_eq_false_iff_eq, Bool.not_eq_true', Bool.not_eq_false', Bool.not_eq_true, Bool.not_eq_false, ne_eq, Int.not_lt, Int.not_le, Bool.and_eq_true, Bool.or_eq_true, Bool.or_eq_false_iff, Bool.and_eq_false_imp, strOf_toList, Decidable.not_not] at hlt)
    ·skip
     have hk : k < (cleanE e now).inn.length := by omega
     have hgw : ((hdsA (cleanE e now).inn).drop (0 + Int.toNat (k : Int) * 10)).take 10 = cH (hd (cleanE e now).inn k) := by rw [Nat.zero_add]; exact getH hk (by omega)
     have hmm : SmM (hd (cleanE e now).inn k).m := hsm.im _ (List.mem_filter.1 (getD_mem Hd.none hk)).1
     refine AW.g ?_
     refine G.openRow 0 rfl (by omega) (fun b cap hc1 hc2 hxs hVe => ?_)
     refine AW.u ?_
     subst hVe
     dsimp only [List.set]
     refine AW.skip ?_
     refine AQ.thenN ?_
     refine AW.seq ?_
     refine AW.block ?_
     refine AW.seq ?_
     refine AW.region ?_
     refine AO.op (O.idxV rfl rfl rfl ⟨(by omega), (by omega)⟩) rfl rfl rfl ?_
     refine AO.op (O.loadK rfl rfl (by repeat (exact List.Mem.head _)) (by exact hgw) (by rfl)) rfl rfl rfl ?_
     refine AO.opB (O.alloc rfl (by (dsimp only [zerosA, List.replicate, List.append, List.flatten, AV.cells, Value.cells, List.toList_toArray, List.map]; done)) (by rfl)) rfl rfl rfl ?_
     intro B8
     (refine AO.store (i := 0) rfl rfl rfl rfl rfl rfl (by rfl) (by rfl) (by rfl) (by (dsimp only [List.set, List.append, List.cons_append, List.nil_append, AV.cells, splice, List.take, List.drop, Nat.reduceAdd]; done)) (by (dsimp only [List.set, List.append, List.cons_append, List.nil_append, AV.cells, splice, List.take, List.drop, Nat.reduceAdd]; done)) ?_)
     refine AO.nil ?_
     refine AQ.thenN ?_
     refine AW.seq ?_
     refine AW.region ?_
     refine AO.op (O.fieldAddr rfl rfl) rfl rfl rfl ?_
     refine AO.op (O.load rfl rfl (by repeat (exact List.Mem.head _)) (by rfl)) rfl rfl rfl ?_
     refine AO.op (O.move rfl rfl) rfl rfl rfl ?_
     refine AO.op (O.eql rfl rfl rfl (by rfl)) rfl rfl rfl ?_
     refine AO.op (O.move rfl rfl) rfl rfl rfl ?_
     refine AO.opG rfl rfl rfl (fun hp => O.fieldAddr rfl rfl) ?_
     refine AO.opG rfl rfl rfl (fun hp => OpW.force 77 rfl (by exact hp) (O.load rfl rfl (by repeat (exact List.Mem.head _)) (by rfl))) ?_
     refine AO.opG rfl rfl rfl (fun hp => O.fieldAddr rfl rfl) ?_
     refine AO.opG rfl rfl rfl (fun hp => OpW.force 79 rfl (by exact hp) (O.load rfl rfl (by repeat (first | exact List.Mem.head _ | refine List.Mem.tail _ ?_)) (by rfl))) ?_
     refine AO.opG rfl rfl rfl (fun hp => OpW.force 78 rfl (by exact hp) (OpW.force 80 rfl (by exact hp) (O.eql rfl rfl rfl (by rfl)))) ?_
     refine AO.op (O.pickAnd rfl rfl rfl rfl (fun h => by exact h)) rfl rfl rfl ?_
     refine AO.nil ?_
     refine AQ.thenN ?_
     refine AW.split rfl (fun h82 => ?_) (fun h82 => ?_) <;> (try simp only [decide_eq_true_eq, decide_eq_false_iff_not, beq_iff_eq, beq_eq_false_iff_ne, bne_iff_ne, bne_eq_false_iff_eq, Bool.not_eq_true', Bool.not_eq_false', Bool.not_eq_true, Bool.not_eq_false, ne_eq, Int.not_lt, Int.not_le, Bool.and_eq_true, Bool.or_eq_true, Bool.or_eq_false_iff, Bool.and_eq_false_imp, strOf_toList, Decidable.not_not] at h82)
     ·skip
      have e0 := fi_some (hB p m.id) Hd.none hk (by rw [hB, Bool.and_eq_true, beq_iff_eq, beq_iff_eq]; exact h82) hn
      have e4 : recvR e p m now = (cleanE e now, 2, (hd (cleanE e now).inn k).m, 0) := e3.trans (by rw [gotR, e0])
      refine AW.seq ?_
      refine AW.regionD 4 (by kernel_rfl) (by kernel_rfl) ?_
      simp only [List.take_succ_cons, List.take_zero, List.drop_succ_cons, List.drop_zero]
      refine FA.op (O.loadK rfl rfl (by repeat (first | exact List.Mem.head _ | refine List.Mem.tail _ ?_)) (by rfl) (by rfl)) rfl rfl rfl rfl ?_
      refine FA.op (O.fieldAddr rfl rfl) rfl rfl rfl rfl ?_
      refine FA.op (O.loadK rfl rfl (by repeat (exact List.Mem.head _)) (by rfl) (by rfl)) rfl rfl rfl rfl ?_
      refine FA.op (O.call rfl Tryz.func56 rfl rfl rfl (message_fn (hd (cleanE e now).inn k).m hmm)) rfl rfl rfl rfl ?_
      refine FA.nil ?_
      simp only [chosen, List.nil_append, List.cons_append, List.append_nil]
      (refine AO.store (i := 5) rfl rfl rfl rfl rfl rfl (by (simp [AV.cells, AV.one, roB, roI, roO, show ∀ k z, (Value.int k z).oneCell' = true from fun _ _ => rfl, show ∀ k, (Value.bool k).oneCell' = true from fun _ => rfl, *]; done)) (by rfl) (by rfl) (by (dsimp only [List.set, List.append, List.cons_append, List.nil_append, AV.cells, splice, List.take, List.drop, Nat.reduceAdd]; done)) (by (dsimp only [List.set, List.append, List.cons_append, List.nil_append, AV.cells, splice, List.take, List.drop, Nat.reduceAdd]; done)) ?_)
      refine AO.op (O.assign rfl rfl) rfl rfl rfl ?_
      (refine AO.store (i := 4) rfl rfl rfl rfl rfl rfl (by rfl) (by rfl) (by rfl) (by (dsimp only [List.set, List.append, List.cons_append, List.nil_append, AV.cells, splice, List.take, List.drop, Nat.reduceAdd]; done)) (by (dsimp only [List.set, List.append, List.cons_append, List.nil_append, AV.cells, splice, List.take, List.drop, Nat.reduceAdd]; done)) ?_)
      refine AO.op (O.assign rfl rfl) rfl rfl rfl ?_
      refine AO.nil ?_
      refine AQ.thenN ?_
      refine AW.ret ?_
      refine AQ.blockR ?_
      refine AQ.thenR ?_
      refine AQ.loopR ?_
      refine AQ.blockR ?_
      refine AQ.thenR ?_
      refine AQ.g ?_
      refine G.closeRow (b := b) (sz := 10) (n := (cleanE e now).inn.length) (cap := cap) 1 rfl hxs rfl hc1 hc2 ?_
      refine AQ.u ?_
      dsimp only [List.set]
      refine AQ.g ?_
      refine G.freezeCell 1 4 3 rfl rfl rfl ?_
      refine AQ.u ?_
      dsimp only [List.eraseIdx, List.set]
      refine AQ.g ?_
      refine G.freezeCell 1 3 2 rfl rfl rfl ?_
      refine AQ.u ?_
      dsimp only [List.eraseIdx, List.set]
      refine AQ.g ?_
      refine G.freezeCell 1 2 1 rfl rfl rfl ?_
      refine AQ.u ?_
      dsimp only [List.eraseIdx, List.set]
      refine FnQ.coe (AQ.ret4G rfl (by exact ResAt.cell rfl (by repeat (first | exact List.Mem.head _ | refine List.Mem.tail _ ?_)) (by (dsimp only [List.set, List.append, List.cons_append, List.nil_append, AV.cells, splice, List.take, List.drop, Nat.reduceAdd]; done)) (by rfl)) (by exact ResAt.tmp rfl) (by exact ResAt.cell rfl (by repeat (first | exact List.Mem.head _ | refine List.Mem.tail _ ?_)) (by (dsimp only [List.set, List.append, List.cons_append, List.nil_append, AV.cells, splice, List.take, List.drop, Nat.reduceAdd]; done)) (by rfl)) (by exact ResAt.tmp rfl) ⟨_, List.nil_sublist _, .nil⟩ ⟨rfl, rfl⟩) (Coe.tup (by (repeat (first | exact CoeL.nil | refine CoeL.cons Coe.rfl ?_)); done)) (ret4V e4 rfl)
     ·skip
      refine AW.skip ?_
      refine AQ.blockN ?_
      refine AQ.thenN ?_
      refine AW.region ?_
      refine AO.op (O.add rfl rfl rfl (by exact wI64 (by omega))) rfl rfl rfl ?_
      refine AO.op (O.move rfl rfl) rfl rfl rfl ?_
      refine AO.nil ?_
      refine AQ.g ?_
      refine G.closeRow (b := b) (sz := 10) (n := (cleanE e now).inn.length) (cap := cap) 1 rfl hxs rfl hc1 hc2 ?_
      refine AQ.u ?_
      dsimp only [List.set]
      refine AQ.loopKN _ _ _ (by omega) (⟨k + 1, by omega, fun q hq => (Nat.lt_or_ge q k).elim (hn q) (fun h => by rw [show q = k by omega, hB, Bool.eq_false_iff, ne_eq, Bool.and_eq_true, beq_iff_eq, beq_iff_eq]; exact fun ⟨a, b⟩ => h82 a b), rfl, rfl, rfl⟩) (by repeat (first | exact envNil | refine envCons rfl ?_)) (by repeat (first | exact envNil | refine envCons rfl ?_)) (by repeat (first | exact subPnil | refine subPcons 1 rfl ?_))
    ·skip
     obtain rfl : k = (cleanE e now).inn.length := by omega
     have e0 := fi_none (hB p m.id) Hd.none hn
     refine AW.exit ?_
     refine AQ.thenX ?_
     refine AQ.loopX ?_
     refine AQ.blockX rfl ?_
     refine AQ.thenN ?_
     refine AW.seq ?_
     refine AW.seq ?_
     refine AW.region ?_
     refine AO.op (O.fieldAddr rfl rfl) rfl rfl rfl ?_
     refine AO.op (O.load rfl rfl (by repeat (first | exact List.Mem.head _ | refine List.Mem.tail _ ?_)) (by rfl)) rfl rfl rfl ?_
     refine AO.op (O.lenRow rfl rfl (by repeat (exact List.Mem.head _))) rfl rfl rfl ?_
     refine AO.op (O.geq rfl rfl rfl (by rfl)) rfl rfl rfl ?_
     refine AO.nil ?_
     refine AQ.thenN ?_
     refine AW.split rfl (fun h91 => ?_) (fun h91 => ?_) <;> (try simp only [decide_eq_true_eq, decide_eq_false_iff_not, beq_iff_eq, beq_eq_false_iff_ne, bne_iff_ne, bne_eq_false_iff_eq, Bool.not_eq_true', Bool.not_eq_false', Bool.not_eq_true, Bool.not_eq_false, ne_eq, Int.not_lt, Int.not_le, Bool.and_eq_true, Bool.or_eq_true, Bool.or_eq_false_iff, Bool.and_eq_false_imp, strOf_toList, Decidable.not_not] at h91)
     ·skip
      have e4 : recvR e p m now = (cleanE e now, 6, Msg.none, 0) := e3.trans (by rw [gotR, e0]; exact if_pos (by omega))
      refine AW.seq ?_
      refine AW.region ?_
      refine AO.op (O.loadK rfl rfl (by repeat (first | exact List.Mem.head _ | refine List.Mem.tail _ ?_)) (by rfl) (by rfl)) rfl rfl rfl ?_
      refine AO.op (O.build rfl rfl rfl (by rfl)) rfl rfl rfl ?_
      (refine AO.store (i := 4) rfl rfl rfl rfl rfl rfl (by (simp [AV.cells, AV.one, roB, roI, roO, show ∀ k z, (Value.int k z).oneCell' = true from fun _ _ => rfl, show ∀ k, (Value.bool k).oneCell' = true from fun _ => rfl, *]; done)) (by rfl) (by rfl) (by (dsimp only [List.set, List.append, List.cons_append, List.nil_append, AV.cells, splice, List.take, List.drop, Nat.reduceAdd]; done)) (by (dsimp only [List.set, List.append, List.cons_append, List.nil_append, AV.cells, splice, List.take, List.drop, Nat.reduceAdd]; done)) ?_)
      refine AO.op (O.assign rfl rfl) rfl rfl rfl ?_
      (refine AO.store (i := 3) rfl rfl rfl rfl rfl rfl (by rfl) (by rfl) (by rfl) (by (dsimp only [List.set, List.append, List.cons_append, List.nil_append, AV.cells, splice, List.take, List.drop, Nat.reduceAdd]; done)) (by (dsimp only [List.set, List.append, List.cons_append, List.nil_append, AV.cells, splice, List.take, List.drop, Nat.reduceAdd]; done)) ?_)
      refine AO.op (O.assign rfl rfl) rfl rfl rfl ?_
      refine AO.nil ?_
      refine AQ.thenN ?_
      refine AW.ret ?_
      refine AQ.thenR ?_
      refine AQ.g ?_
      refine G.freezeCell 0 3 3 rfl rfl rfl ?_
      refine AQ.u ?_
      dsimp only [List.eraseIdx, List.set]
      refine AQ.g ?_
      refine G.freezeCell 0 2 2 rfl rfl rfl ?_
      refine AQ.u ?_
      dsimp only [List.eraseIdx, List.set]
      refine AQ.g ?_
      refine G.freezeCell 0 1 1 rfl rfl rfl ?_
      refine AQ.u ?_
      dsimp only [List.eraseIdx, List.set]
      refine FnQ.coe (AQ.ret4G rfl (by exact ResAt.cell rfl (by repeat (first | exact List.Mem.head _ | refine List.Mem.tail _ ?_)) (by (dsimp only [List.set, List.append, List.cons_append, List.nil_append, AV.cells, splice, List.take, List.drop, Nat.reduceAdd]; done)) (by rfl)) (by exact ResAt.tmp rfl) (by exact ResAt.cell rfl (by repeat (exact List.Mem.head _)) (by (dsimp only [List.set, List.append, List.cons_append, List.nil_append, AV.cells, splice, List.take, List.drop, Nat.reduceAdd]; done)) (by rfl)) (by exact ResAt.tmp rfl) ⟨_, List.nil_sublist _, .nil⟩ ⟨rfl, rfl⟩) (Coe.tup (by (repeat (first | exact CoeL.nil | refine CoeL.cons Coe.rfl ?_ | refine CoeL.cons Coe.nil ?_ | refine CoeL.cons (Coe.agg ?_) ?_)); done)) (ret4V e4 rfl)
     ·skip
      have e4 : recvR e p m now = (⟨(cleanE e now).next, (cleanE e now).out, (cleanE e now).used, (cleanE e now).inn ++ [⟨p, m.id, now + 128, false, Msg.none⟩]⟩, 1, Msg.none, 0) := e3.trans (by rw [gotR, e0]; exact if_neg (by omega))
      refine AW.skip ?_
      refine AQ.thenN ?_
      refine AW.seq ?_
      refine AW.region ?_
      refine AO.op (O.fieldAddr rfl rfl) rfl rfl rfl ?_
      refine AO.op (O.load rfl rfl (by repeat (first | exact List.Mem.head _ | refine List.Mem.tail _ ?_)) (by rfl)) rfl rfl rfl ?_
      refine AO.op (O.move rfl rfl) rfl rfl rfl ?_
      refine AO.op (O.fieldAddr rfl rfl) rfl rfl rfl ?_
      refine AO.op (O.load rfl rfl (by repeat (first | exact List.Mem.head _ | refine List.Mem.tail _ ?_)) (by rfl)) rfl rfl rfl ?_
      refine AO.op (O.move rfl rfl) rfl rfl rfl ?_
      refine AO.op (O.add rfl rfl rfl (by exact wI64 (by omega))) rfl rfl rfl ?_
      refine AO.op (O.build rfl rfl rfl (by rfl)) rfl rfl rfl ?_
      refine AO.opB (O.buildSlice rfl rfl rfl (by rfl) (by rfl) (by rfl) (by rfl)) rfl rfl rfl ?_
      intro B9
      refine AO.g ?_
      (refine G.freezeSl 0 102 rfl rfl ⟨Nat.le_refl _, by unfold maxLen; omega⟩ ?_)
      refine G.unfull 102 rfl ?_
      refine AO.u ?_
      dsimp only [List.eraseIdx]
      (refine AO.append' (i := 0) rfl rfl rfl rfl (by rfl) (by rfl) rfl rfl rfl (by exact SrcA.ro TyD.ax (by rfl) (Nat.le_of_ble_eq_true rfl)) (by rfl) (by (unfold maxLen; omega)) (by omega) (by (dsimp only [List.set, List.append, List.cons_append, List.nil_append, AV.cells, splice, List.take, List.drop, Nat.reduceAdd]; done)) (fun _ => by (dsimp only [List.set]; done)) ?_)
      intro V10 hV10
      refine AO.op (O.fieldAddr rfl rfl) rfl rfl rfl ?_
      (refine AO.store (i := 6) rfl rfl rfl rfl rfl rfl (by (simp [AV.cells, AV.one, *]; done)) (by rfl) (by rfl) (by (dsimp only [List.set, List.append, List.cons_append, List.nil_append, AV.cells, splice, List.take, List.drop, Nat.reduceAdd]; done)) (by (dsimp only [List.set, List.append, List.cons_append, List.nil_append, AV.cells, splice, List.take, List.drop, Nat.reduceAdd]; done)) ?_)
      refine AO.nil ?_
      refine AQ.thenN ?_
      refine AW.seq ?_
      refine AW.region ?_
      refine AO.op (O.loadK rfl rfl (by repeat (first | exact List.Mem.head _ | refine List.Mem.tail _ ?_)) (by rfl) (by rfl)) rfl rfl rfl ?_
      refine AO.op (O.build rfl rfl rfl (by rfl)) rfl rfl rfl ?_
      (refine AO.store (i := 4) rfl rfl rfl rfl rfl rfl (by (simp [AV.cells, AV.one, roB, roI, roO, show ∀ k z, (Value.int k z).oneCell' = true from fun _ _ => rfl, show ∀ k, (Value.bool k).oneCell' = true from fun _ => rfl, *]; done)) (by rfl) (by rfl) (by (dsimp only [List.set, List.append, List.cons_append, List.nil_append, AV.cells, splice, List.take, List.drop, Nat.reduceAdd]; done)) (by (dsimp only [List.set, List.append, List.cons_append, List.nil_append, AV.cells, splice, List.take, List.drop, Nat.reduceAdd]; done)) ?_)
      refine AO.op (O.assign rfl rfl) rfl rfl rfl ?_
      (refine AO.store (i := 3) rfl rfl rfl rfl rfl rfl (by rfl) (by rfl) (by rfl) (by (dsimp only [List.set, List.append, List.cons_append, List.nil_append, AV.cells, splice, List.take, List.drop, Nat.reduceAdd]; done)) (by (dsimp only [List.set, List.append, List.cons_append, List.nil_append, AV.cells, splice, List.take, List.drop, Nat.reduceAdd]; done)) ?_)
      refine AO.op (O.assign rfl rfl) rfl rfl rfl ?_
      refine AO.nil ?_
      refine AQ.thenN ?_
      refine AW.ret ?_
      refine AQ.g ?_
      refine G.coeRow 0 ((cleanE e now).inn ++ [(⟨p, m.id, now + 128, false, Msg.none⟩ : Hd)]).length (hdsA ((cleanE e now).inn ++ [(⟨p, m.id, now + 128, false, Msg.none⟩ : Hd)])) rfl (snoc_len _ _) (by rw [hdsA_snoc]; refine CoeL.app CoeL.refl ?_; repeat (first | exact CoeL.nil | refine CoeL.cons Coe.rfl ?_ | refine CoeL.cons Coe.nil ?_)) ?_
      refine AQ.u ?_
      dsimp only [List.set]
      refine AQ.g ?_
      refine G.freezeCell 0 3 3 rfl rfl rfl ?_
      refine AQ.u ?_
      dsimp only [List.eraseIdx, List.set]
      refine AQ.g ?_
      refine G.freezeCell 0 2 2 rfl rfl rfl ?_
      refine AQ.u ?_
      dsimp only [List.eraseIdx, List.set]
      refine AQ.g ?_
      refine G.freezeCell 0 1 1 rfl rfl rfl ?_
      refine AQ.u ?_
      dsimp only [List.eraseIdx, List.set]
      refine FnQ.coe (AQ.ret4G rfl (by exact ResAt.cell rfl (by repeat (first | exact List.Mem.head _ | refine List.Mem.tail _ ?_)) (by (dsimp only [List.set, List.append, List.cons_append, List.nil_append, AV.cells, splice, List.take, List.drop, Nat.reduceAdd]; done)) (by rfl)) (by exact ResAt.tmp rfl) (by exact ResAt.cell rfl (by repeat (exact List.Mem.head _)) (by (dsimp only [List.set, List.append, List.cons_append, List.nil_append, AV.cells, splice, List.take, List.drop, Nat.reduceAdd]; done)) (by rfl)) (by exact ResAt.tmp rfl) ⟨_, List.nil_sublist _, .nil⟩ ⟨rfl, rfl⟩) (Coe.tup (by (repeat (first | exact CoeL.nil | refine CoeL.cons Coe.rfl ?_ | refine CoeL.cons Coe.nil ?_ | refine CoeL.cons (Coe.agg ?_) ?_)); done)) (ret4V e4 rfl)
end Go.Proofs.YtoonnnifelnaiaaGreatDoor.By

namespace Go.Proofs.YtoonnnifelnaiaaGreatDoor.By
open Go.RowKit L A
set_option linter.unusedVariables false
set_option maxRecDepth 20000
set_option linter.unusedSimpArgs false
attribute [local irreducible] AW AQ AO
end Go.Proofs.YtoonnnifelnaiaaGreatDoor.By

namespace Go.Proofs.YtoonnnifelnaiaaGreatDoor.By
open Go.RowKit L A
set_option linter.unusedVariables false
set_option maxRecDepth 20000
set_option linter.unusedSimpArgs false
attribute [local irreducible] AW AQ AO
theorem splice_right : ∀ (ys A X : List AV) (c j : Nat), j = A.length + c → splice (A ++ X) j ys = A ++ splice X c ys
 | [], A, X, c, j, h => rfl
 | y :: ys, A, X, c, j, h => by
  subst h
  show splice ((A ++ X).set (A.length + c) y) (A.length + c + 1) ys = A ++ splice (X.set c y) (c + 1) ys
  rw [List.set_append_right _ _ (by omega), show A.length + c - A.length = c by omega, splice_right ys A (X.set c y) (c + 1) _ (by omega)]
theorem splice_left : ∀ (ys B C : List AV) (c : Nat), c + ys.length ≤ B.length → splice (B ++ C) c ys = splice B c ys ++ C
 | [], B, C, c, h => rfl
 | y :: ys, B, C, c, h => by
  have h : c + (ys.length + 1) ≤ B.length := h
  show splice ((B ++ C).set c y) (c + 1) ys = splice (B.set c y) (c + 1) ys ++ C
  rw [List.set_append_left _ _ (by omega), splice_left ys (B.set c y) C (c + 1) (by rw [List.length_set]; omega)]
theorem flat_splice {α : Type} {f : α → List AV} {k : Nat} (hf : ∀ a, (f a).length = k) (d : α) {l : List α} {i c : Nat} (h : i < l.length) {ys : List AV} (hc : c + ys.length ≤ k) {a : α} (ha : splice (f (l.getD i d)) c ys = f a) {j : Nat} (hj : j = i * k + c) : splice (l.flatMap f) j ys = (l.set i a).flatMap f := by
 have e : l.flatMap f = (l.flatMap f).take (i * k) ++ (f (l.getD i d) ++ (l.flatMap f).drop (i * k + k)) := by
  have h1 := flat_at hf d h rfl
  rw [← h1, ← List.drop_drop, List.take_append_drop, List.take_append_drop]
 have hl : ((l.flatMap f).take (i * k)).length = i * k := by
  rw [List.length_take, flat_len hf, Nat.min_eq_left (Nat.mul_le_mul_right k (by omega))]
 rw [e, splice_right ys _ _ c j (by rw [hl]; exact hj), splice_left ys _ _ c (by rw [hf]; exact hc), ha, flat_set hf a h, List.append_assoc]
theorem cellHi {l : List Hd} {k : Nat} (h : k < l.length) (c : Nat) (hc : c < 10) {j : Nat} (hj : j = k * 10 + c) {v : AV} (hv : (cellsH (hd l k))[c]? = some v) : (hdsA l)[j]? = some v := (cellH h hc hj).trans hv
theorem splice_ans {l : List Hd} {k : Nat} (h : k < l.length) {j : Nat} (hj : j = k * 10 + 3) : splice (hdsA l) j [.val (.bool true)] = hdsA (l.set k { hd l k with ans := true }) := flat_splice cellsH_len Hd.none h (c := 3) (by decide) rfl hj
theorem splice_msg {l : List Hd} {k : Nat} (h : k < l.length) (m : Msg) {j : Nat} (hj : j = k * 10 + 4) : splice (hdsA (l.set k { hd l k with ans := true })) j [.val (.int .i64 m.ty), .val (.int .i64 m.code), .val (.int .i64 m.id), roB m.tok, roO m.opts, roB m.pay] = hdsA (l.set k { hd l k with ans := true, m := m }) := by
 have h2 : k < (l.set k { hd l k with ans := true }).length := by rw [List.length_set]; exact h
 have e : (l.set k { hd l k with ans := true }).getD k Hd.none = { hd l k with ans := true } := by simp [h]
 refine (flat_splice cellsH_len Hd.none h2 (c := 4) (ys := [.val (.int .i64 m.ty), .val (.int .i64 m.code), .val (.int .i64 m.id), roB m.tok, roO m.opts, roB m.pay]) (by show 4 + 6 ≤ 10; omega) (a := { hd l k with ans := true, m := m }) (by rw [e]; rfl) hj).trans ?_
 rw [List.set_set]; rfl
abbrev ackM (m : Msg) (id : Int) : Msg := ⟨2, m.code, id, m.tok, m.opts, m.pay⟩
def answerR (e : Ep) (p id : Int) (m : Msg) (now : Int) : Ep × Msg × Int :=
 if RecvOk e p (ackM m id) now then
  match (cleanE e now).inn.findIdx? (hB p id) with
  | some i => if (hd (cleanE e now).inn i).ans = true then (Ep.none, Msg.none, 15)
   else (⟨e.next, e.out, (cleanE e now).used, (cleanE e now).inn.set i { hd (cleanE e now).inn i with ans := true, m := ackM m id }⟩, ackM m id, 0)
  | none => (Ep.none, Msg.none, 10)
 else (Ep.none, Msg.none, 1)
set_option maxHeartbeats 4000000 in
theorem answer_fn (e : Ep) (p id : Int) (m : Msg) (now : Int) (hb : BdE e) : Sp Tryz.prog 23 [aggE e, .val (.int .i64 p), .val (.int .i64 id), aggM m, .val (.int .i64 now)] [] (Is (resS (answerR e p id m now))) := by
 refine Sp.enter Tryz.func23 rfl _ Tryz.ntmps23 rfl (fun w0 R0 => ?_)
 refine AW.seq ?_
 refine AW.region ?_
 refine AO.opB (O.box rfl rfl rfl rfl rfl) rfl rfl rfl ?_
 intro B1
 refine AO.opB (O.box rfl rfl rfl rfl rfl) rfl rfl rfl ?_
 intro B2
 refine AO.opB (O.alloc rfl (by (dsimp only [zerosA, List.replicate, List.append, List.flatten, AV.cells, Value.cells, List.toList_toArray, List.map]; done)) (by rfl)) rfl rfl rfl ?_
 intro B3
 refine AO.opB (O.alloc rfl (by (dsimp only [zerosA, List.replicate, List.append, List.flatten, AV.cells, Value.cells, List.toList_toArray, List.map]; done)) (by rfl)) rfl rfl rfl ?_
 intro B4
 refine AO.op (O.assign rfl rfl) rfl rfl rfl ?_
 refine AO.nil ?_
 refine AQ.thenN ?_
 refine AW.seq ?_
 refine AW.region ?_
 refine AO.op (O.move rfl rfl) rfl rfl rfl ?_
 refine AO.op (O.fieldAddr rfl rfl) rfl rfl rfl ?_
 (refine AO.store (i := 2) rfl rfl rfl rfl rfl rfl (by rfl) (by rfl) (by rfl) (by (dsimp only [List.set, List.cons_append, List.nil_append, List.take, List.drop]; done)) (by (dsimp only [List.set, List.cons_append, List.nil_append, List.take, List.drop]; done)) ?_)
 refine AO.op (O.fieldAddr rfl rfl) rfl rfl rfl ?_
 (refine AO.store (i := 2) rfl rfl rfl rfl rfl rfl (by rfl) (by rfl) (by rfl) (by (dsimp only [List.set, List.cons_append, List.nil_append, List.take, List.drop]; done)) (by (dsimp only [List.set, List.cons_append, List.nil_append, List.take, List.drop]; done)) ?_)
 refine AO.nil ?_
 refine AQ.thenN ?_
 refine AW.seq ?_
 refine AW.seq ?_
 refine AW.region ?_
 (refine AO.op (O.loadK rfl rfl (by repeat (first | exact List.Mem.head _ | refine List.Mem.tail _ ?_)) (by (dsimp only [List.set, List.cons_append, List.nil_append, List.take, List.drop]; done)) (by rfl)) rfl rfl rfl ?_)
 refine AO.op (O.call rfl Tryz.func50 rfl rfl rfl (evalid_fn e hb)) rfl rfl rfl ?_
 refine AO.op (O.not rfl rfl (by rfl)) rfl rfl rfl ?_
 refine AO.op (O.move rfl rfl) rfl rfl rfl ?_
 refine AO.opG rfl rfl rfl (fun hp => O.move rfl rfl) ?_
 refine AO.opG rfl rfl rfl (fun hp => OpW.force 22 rfl (by exact hp) (O.call rfl Tryz.func51 rfl rfl rfl (timeOK_fn _))) ?_
 refine AO.opG rfl rfl rfl (fun hp => OpW.force 23 rfl (by exact hp) (O.not rfl rfl (by rfl))) ?_
 refine AO.op (O.pickOr rfl rfl rfl rfl (fun h => by exact congrArg (fun b => !b) h)) rfl rfl rfl ?_
 refine AO.op (O.move rfl rfl) rfl rfl rfl ?_
 refine AO.opG rfl rfl rfl (fun hp => O.move rfl rfl) ?_
 refine AO.opG rfl rfl rfl (fun hp => OpW.force 27 rfl (by exact hp) (O.call rfl Tryz.func52 rfl rfl rfl (peerOK_fn _))) ?_
 refine AO.opG rfl rfl rfl (fun hp => OpW.force 28 rfl (by exact hp) (O.not rfl rfl (by rfl))) ?_
 refine AO.op (O.pickOr rfl rfl rfl rfl (fun h => by exact congrArg (fun b => !b) h)) rfl rfl rfl ?_
 refine AO.op (O.move rfl rfl) rfl rfl rfl ?_
 (refine AO.opG rfl rfl rfl (fun hp => O.loadK rfl rfl (by repeat (first | exact List.Mem.head _ | refine List.Mem.tail _ ?_)) (by (dsimp only [List.set, List.cons_append, List.nil_append, List.take, List.drop]; done)) (by rfl)) ?_)
 refine AO.opG rfl rfl rfl (fun hp => OpW.force 32 rfl (by exact hp) (O.call rfl Tryz.func53 rfl rfl rfl (valid_fn (ackM m id)))) ?_
 refine AO.opG rfl rfl rfl (fun hp => OpW.force 33 rfl (by exact hp) (O.not rfl rfl (by rfl))) ?_
 refine AO.op (O.pickOr rfl rfl rfl rfl (fun h => by exact congrArg (fun b => !b) h)) rfl rfl rfl ?_
 refine AO.nil ?_
 refine AQ.thenN ?_
 refine AW.split rfl (fun h => ?_) (fun h => ?_) <;> (try simp only [decide_eq_true_eq, decide_eq_false_iff_not, beq_iff_eq, beq_eq_false_iff_ne, bne_iff_ne, bne_eq_false_iff_eq, Bool.not_eq_true', Bool.not_eq_false', Bool.not_eq_true, Bool.not_eq_false, ne_eq, Int.not_lt, Int.not_le, Bool.and_eq_true, Bool.or_eq_true, Bool.or_eq_false_iff, Bool.and_eq_false_imp, strOf_toList, Decidable.not_not] at h)
 ·skip
  have e1 : answerR e p id m now = (Ep.none, Msg.none, 1) := if_neg (by
   rintro ⟨h1, h2, h3, h4⟩
   rcases h with ((h | h) | h) | h
   ·exact h h1
   ·exact h h2
   ·exact h h3
   ·exact h h4)
  refine AW.seq ?_
  refine AW.region ?_
  refine AO.op (O.build rfl rfl rfl (by rfl)) rfl rfl rfl ?_
  refine AO.op (O.build rfl rfl rfl (by rfl)) rfl rfl rfl ?_
  (refine AO.store (i := 1) rfl rfl rfl rfl rfl rfl (by rfl) (by rfl) (by rfl) (by (dsimp only [List.set, List.cons_append, List.nil_append, List.take, List.drop]; done)) (by (dsimp only [List.set, List.cons_append, List.nil_append, List.take, List.drop]; done)) ?_)
  (refine AO.store (i := 0) rfl rfl rfl rfl rfl rfl (by rfl) (by rfl) (by rfl) (by (dsimp only [List.set, List.cons_append, List.nil_append, List.take, List.drop]; done)) (by (dsimp only [List.set, List.cons_append, List.nil_append, List.take, List.drop]; done)) ?_)
  refine AO.op (O.assign rfl rfl) rfl rfl rfl ?_
  refine AO.nil ?_
  refine AQ.thenN ?_
  refine AW.ret ?_
  refine AQ.thenR ?_
  refine FnQ.coe (AQ.ret3G rfl (by exact ResAt.cell rfl (by repeat (first | exact List.Mem.head _ | refine List.Mem.tail _ ?_)) (by (dsimp only [List.set, List.cons_append, List.nil_append, List.take, List.drop]; done)) (by rfl)) (by exact ResAt.cell rfl (by repeat (exact List.Mem.head _)) (by (dsimp only [List.set, List.cons_append, List.nil_append, List.take, List.drop]; done)) (by rfl)) (by exact ResAt.tmp rfl) ⟨_, List.nil_sublist _, .nil⟩ ⟨rfl, rfl⟩) (Coe.tup (by (repeat (first | exact CoeL.nil | refine CoeL.cons Coe.rfl ?_ | refine CoeL.cons Coe.nil ?_ | refine CoeL.cons (Coe.agg ?_) ?_)); done)) (ret3S e1 rfl)
 ·skip
  obtain ⟨⟨⟨hv, ht⟩, hp⟩, hvm⟩ := h
  have hok : RecvOk e p (ackM m id) now := ⟨hv, ht, hp, hvm⟩
  have hsm := ValE.sm hv
  have hmm : SmM (ackM m id) := ValM.sm hvm
  have hv4 := hv.2.2.2.1
  have hci := clean_inn e now
  have h0 : answerR e p id m now = _ := if_pos hok
  have hco : (cleanE e now).out = e.out := rfl
  have hcn : (cleanE e now).next = e.next := rfl
  refine AW.skip ?_
  refine AQ.thenN ?_
  refine AW.seq ?_
  refine AW.region ?_
  (refine AO.op (O.loadK rfl rfl (by repeat (first | exact List.Mem.head _ | refine List.Mem.tail _ ?_)) (by (dsimp only [List.set, List.cons_append, List.nil_append, List.take, List.drop]; done)) (by rfl)) rfl rfl rfl ?_)
  refine AO.op (O.move rfl rfl) rfl rfl rfl ?_
  refine AO.opN (O.call rfl Tryz.func54 rfl rfl rfl (cleaned_fn e now hsm)) rfl rfl rfl ?_
  rintro _ _ ⟨V15, V25, V35, hV15, hV25, hV35, rfl, rfl⟩
  simp only [List.cons_append, List.nil_append]
  (refine AO.store (i := 6) rfl rfl rfl rfl rfl rfl (by (simp [AV.cells, AV.one, roB, roI, roO, show ∀ k z, (Value.int k z).oneCell' = true from fun _ _ => rfl, show ∀ k, (Value.bool k).oneCell' = true from fun _ => rfl, *]; done)) (by rfl) (by rfl) (by (dsimp only [List.set, List.cons_append, List.nil_append, List.take, List.drop]; done)) (by (dsimp only [List.set, List.cons_append, List.nil_append, List.take, List.drop]; done)) ?_)
  refine AO.nil ?_
  refine AQ.thenN ?_
  refine AW.seq ?_
  refine AW.seq ?_
  refine AW.region ?_
  refine AO.op (O.fieldAddr rfl rfl) rfl rfl rfl ?_
  refine AO.op (O.load rfl rfl (by repeat (first | exact List.Mem.head _ | refine List.Mem.tail _ ?_)) (by rfl)) rfl rfl rfl ?_
  refine AO.op (O.lenRow rfl rfl (by repeat (exact List.Mem.head _))) rfl rfl rfl ?_
  refine AO.op (O.move rfl rfl) rfl rfl rfl ?_
  refine AO.nil ?_
  refine AQ.thenN ?_
  refine AW.block ?_
  rw [← hco, ← hcn] at h0
  generalize cleanE e now = c at *
  refine AW.loopK [(1, _), (2, _), (5, _), (8, _), (10, _), (11, _), (43, _)] (fun nn E H => ∃ (k : Nat), (k ≤ c.inn.length) ∧ (∀ q, q < k → hB p id (hd c.inn q) = false) ∧ nn = c.inn.length - k ∧ E = [(44, .val (.int .i64 (k : Int)))] ∧ H = [.row V35 126 10 c.inn.length (hdsA c.inn), .row V25 122 3 c.used.length (ussA c.used), .row V15 78 9 c.out.length (wtsA c.out), .blk B4 41 6 [.val (.int .i64 0), .val (.int .i64 0), .val (.int .i64 0), .val nilS, .val nilS, .val nilS], .blk B3 56 4 [.val (.int .i64 0), .val nilS, .val nilS, .val nilS], .blk B2 41 6 [.val (.int .i64 2), .val (.int .i64 m.code), .val (.int .i64 id), roB m.tok, roO m.opts, roB m.pay], .blk B1 56 4 [.val (.int .i64 c.next), .val V15, .val V25, .val V35]]) _ (⟨0, by omega, fun q hq => absurd hq (by omega), rfl, rfl, rfl⟩) (by repeat (first | exact envNil | refine envCons rfl ?_)) (by repeat (first | exact envNil | refine envCons rfl ?_)) (by repeat (first | exact subPnil | refine subPcons 0 rfl ?_)) ?_
  rintro nn E H ⟨k, hk1, hn, rfl, rfl, rfl⟩
  dsimp only [List.cons_append, List.nil_append]
  refine AW.seq ?_
  refine AW.region ?_
  refine AO.op (O.lss rfl rfl rfl (by rfl)) rfl rfl rfl ?_
  refine AO.nil ?_
  refine AQ.thenN ?_
  refine AW.seq ?_
  refine AW.split rfl (fun hlt => ?_) (fun hlt => ?_) <;> (try simp only [decide_eq_true_eq, decide_eq_false_iff_not, beq_iff_eq, beq_eq_false_iff_ne, bne_iff_ne, bne_eq_false_iff_eq, Bool.not_eq_true', Bool.not_eq_false', Bool.not_eq_true, Bool.not_eq_false, ne_eq, Int.not_lt, Int.not_le, Bool.and_eq_true, Bool.or_eq_true, Bool.or_eq_false_iff, Bool.and_eq_false_imp, strOf_toList, Decidable.not_not] at hlt)
  ·skip
   have hk : k < c.inn.length := by omega
   refine AW.g ?_
   refine G.openRow 0 rfl (by omega) (fun b cap hc1 hc2 hxs hVe => ?_)
   refine AW.u ?_
   subst hVe
   dsimp only [List.set]
   refine AW.skip ?_
   refine AQ.thenN ?_
   refine AW.seq ?_
   refine AW.block ?_
   refine AW.seq ?_
   refine AW.region ?_
   refine AO.op (O.move rfl rfl) rfl rfl rfl ?_
   refine AO.op (O.assign rfl rfl) rfl rfl rfl ?_
   refine AO.nil ?_
   refine AQ.thenN ?_
   refine AW.seq ?_
   refine AW.region ?_
   refine AO.op (O.fieldAddr rfl rfl) rfl rfl rfl ?_
   refine AO.op (O.load rfl rfl (by repeat (first | exact List.Mem.head _ | refine List.Mem.tail _ ?_)) (by rfl)) rfl rfl rfl ?_
   refine AO.op (O.move rfl rfl) rfl rfl rfl ?_
   refine AO.op (O.idxV rfl rfl rfl ⟨(by omega), (by omega)⟩) rfl rfl rfl ?_
   refine AO.op (O.assign rfl rfl) rfl rfl rfl ?_
   refine AO.nil ?_
   refine AQ.thenN ?_
   refine AW.seq ?_
   refine AW.seq ?_
   refine AW.region ?_
   refine AO.op (O.move rfl rfl) rfl rfl rfl ?_
   refine AO.op (O.nilCheck rfl rfl) rfl rfl rfl ?_
   refine AO.op (O.fieldAddr rfl rfl) rfl rfl rfl ?_
   refine AO.op (O.load rfl rfl (by repeat (exact List.Mem.head _)) (by exact cellHi hk 0 (by omega) (by omega) rfl)) rfl rfl rfl ?_
   refine AO.op (O.move rfl rfl) rfl rfl rfl ?_
   refine AO.op (O.neq rfl rfl rfl (by rfl)) rfl rfl rfl ?_
   refine AO.op (O.move rfl rfl) rfl rfl rfl ?_
   refine AO.opG rfl rfl rfl (fun hp => O.move rfl rfl) ?_
   refine AO.opG rfl rfl rfl (fun hp => OpW.force 58 rfl (by exact hp) (O.nilCheck rfl rfl)) ?_
   refine AO.opG rfl rfl rfl (fun hp => OpW.force 59 rfl (by exact hp) (O.fieldAddr rfl rfl)) ?_
   refine AO.opG rfl rfl rfl (fun hp => OpW.force 60 rfl (by exact hp) (O.load rfl rfl (by repeat (exact List.Mem.head _)) (by exact cellHi hk 1 (by omega) (by omega) rfl))) ?_
   refine AO.opG rfl rfl rfl (fun hp => O.move rfl rfl) ?_
   refine AO.opG rfl rfl rfl (fun hp => OpW.force 61 rfl (by exact hp) (OpW.force 62 rfl (by exact hp) (O.neq rfl rfl rfl (by rfl)))) ?_
   refine AO.op (O.pickOr rfl rfl rfl rfl (fun h => by exact congrArg (fun b => !b) h)) rfl rfl rfl ?_
   refine AO.nil ?_
   refine AQ.thenN ?_
   refine AW.split rfl (fun h64 => ?_) (fun h64 => ?_) <;> (try simp only [decide_eq_true_eq, decide_eq_false_iff_not, beq_iff_eq, beq_eq_false_iff_ne, bne_iff_ne, bne_eq_false_iff_eq, Bool.not_eq_true', Bool.not_eq_false', Bool.not_eq_true, Bool.not_eq_false, ne_eq, Int.not_lt, Int.not_le, Bool.and_eq_true, Bool.or_eq_true, Bool.or_eq_false_iff, Bool.and_eq_false_imp, strOf_toList, Decidable.not_not] at h64)
   ·skip
    refine AW.exit ?_
    refine AQ.thenX ?_
    refine AQ.blockX rfl ?_
    refine AQ.thenN ?_
    refine AW.region ?_
    refine AO.op (O.add rfl rfl rfl (by exact wI64 (by omega))) rfl rfl rfl ?_
    refine AO.op (O.move rfl rfl) rfl rfl rfl ?_
    refine AO.nil ?_
    refine AQ.g ?_
    refine G.closeRow (b := b) (sz := 10) (n := c.inn.length) (cap := cap) 0 rfl hxs rfl hc1 hc2 ?_
    refine AQ.u ?_
    dsimp only [List.set]
    refine AQ.loopKN _ _ _ (by omega) (⟨k + 1, by omega, fun q hq => (Nat.lt_or_ge q k).elim (hn q) (fun h => by rw [show q = k by omega, hB, Bool.eq_false_iff, ne_eq, Bool.and_eq_true, beq_iff_eq, beq_iff_eq]; exact fun ⟨a, b⟩ => h64.elim (fun f => f a) (fun f => f b)), rfl, rfl, rfl⟩) (by repeat (first | exact envNil | refine envCons rfl ?_)) (by repeat (first | exact envNil | refine envCons rfl ?_)) (by repeat (first | exact subPnil | refine subPcons 0 rfl ?_))
   ·skip
    have e0 := fi_some (hB p id) Hd.none hk (by rw [hB, Bool.and_eq_true, beq_iff_eq, beq_iff_eq]; exact h64) hn
    rw [e0] at h0
    refine AW.skip ?_
    refine AQ.thenN ?_
    refine AW.seq ?_
    refine AW.seq ?_
    refine AW.region ?_
    refine AO.op (O.move rfl rfl) rfl rfl rfl ?_
    refine AO.op (O.nilCheck rfl rfl) rfl rfl rfl ?_
    refine AO.op (O.fieldAddr rfl rfl) rfl rfl rfl ?_
    refine AO.op (O.load rfl rfl (by repeat (exact List.Mem.head _)) (by exact cellHi hk 3 (by omega) (by omega) rfl)) rfl rfl rfl ?_
    refine AO.nil ?_
    refine AQ.thenN ?_
    refine AW.split rfl (fun h68 => ?_) (fun h68 => ?_) <;> (try simp only [decide_eq_true_eq, decide_eq_false_iff_not, beq_iff_eq, beq_eq_false_iff_ne, bne_iff_ne, bne_eq_false_iff_eq, Bool.not_eq_true', Bool.not_eq_false', Bool.not_eq_true, Bool.not_eq_false, ne_eq, Int.not_lt, Int.not_le, Bool.and_eq_true, Bool.or_eq_true, Bool.or_eq_false_iff, Bool.and_eq_false_imp, strOf_toList, Decidable.not_not] at h68)
    ·skip
     have e1 : answerR e p id m now = (Ep.none, Msg.none, 15) := h0.trans (if_pos h68)
     refine AW.seq ?_
     refine AW.region ?_
     refine AO.op (O.build rfl rfl rfl (by rfl)) rfl rfl rfl ?_
     refine AO.op (O.build rfl rfl rfl (by rfl)) rfl rfl rfl ?_
     (refine AO.store (i := 4) rfl rfl rfl rfl rfl rfl (by rfl) (by rfl) (by rfl) (by (dsimp only [List.set, List.cons_append, List.nil_append, List.take, List.drop]; done)) (by (dsimp only [List.set, List.cons_append, List.nil_append, List.take, List.drop]; done)) ?_)
     (refine AO.store (i := 3) rfl rfl rfl rfl rfl rfl (by rfl) (by rfl) (by rfl) (by (dsimp only [List.set, List.cons_append, List.nil_append, List.take, List.drop]; done)) (by (dsimp only [List.set, List.cons_append, List.nil_append, List.take, List.drop]; done)) ?_)
     refine AO.op (O.assign rfl rfl) rfl rfl rfl ?_
     refine AO.nil ?_
     refine AQ.thenN ?_
     refine AW.ret ?_
     refine AQ.thenR ?_
     refine AQ.blockR ?_
     refine AQ.thenR ?_
     refine AQ.loopR ?_
     refine AQ.blockR ?_
     refine AQ.thenR ?_
     refine FnQ.coe (AQ.ret3G rfl (by exact ResAt.cell rfl (by repeat (first | exact List.Mem.head _ | refine List.Mem.tail _ ?_)) (by (dsimp only [List.set, List.cons_append, List.nil_append, List.take, List.drop]; done)) (by rfl)) (by exact ResAt.cell rfl (by repeat (first | exact List.Mem.head _ | refine List.Mem.tail _ ?_)) (by (dsimp only [List.set, List.cons_append, List.nil_append, List.take, List.drop]; done)) (by rfl)) (by exact ResAt.tmp rfl) ⟨_, List.nil_sublist _, .nil⟩ ⟨rfl, rfl⟩) (Coe.tup (by (repeat (first | exact CoeL.nil | refine CoeL.cons Coe.rfl ?_ | refine CoeL.cons Coe.nil ?_ | refine CoeL.cons (Coe.agg ?_) ?_)); done)) (ret3S e1 rfl)
    ·skip
     have e1 : answerR e p id m now = (⟨c.next, c.out, c.used, c.inn.set k { hd c.inn k with ans := true, m := ackM m id }⟩, ackM m id, 0) := h0.trans (if_neg (by rw [h68]; simp))
     refine AW.skip ?_
     refine AQ.thenN ?_
     refine AW.seq ?_
     refine AW.region ?_
     refine AO.op (O.move rfl rfl) rfl rfl rfl ?_
     refine AO.op (O.move rfl rfl) rfl rfl rfl ?_
     (refine AO.op (O.loadK rfl rfl (by repeat (first | exact List.Mem.head _ | refine List.Mem.tail _ ?_)) (by (dsimp only [List.set, List.cons_append, List.nil_append, List.take, List.drop]; done)) (by rfl)) rfl rfl rfl ?_)
     refine AO.op (O.call rfl Tryz.func56 rfl rfl rfl (message_fn (ackM m id) hmm)) rfl rfl rfl ?_
     refine AO.op (O.nilCheck rfl rfl) rfl rfl rfl ?_
     refine AO.op (O.fieldAddr rfl rfl) rfl rfl rfl ?_
     (refine AO.store (i := 0) rfl rfl rfl rfl rfl rfl (by rfl) (by rfl) (by exact Nat.ble_eq_true_of_le (by simp only [hdsA_len, List.length_set]; omega)) (by exact splice_ans hk (by omega)) (by (dsimp only [List.set, List.cons_append, List.nil_append, List.take, List.drop]; done)) ?_)
     refine AO.op (O.nilCheck rfl rfl) rfl rfl rfl ?_
     refine AO.op (O.fieldAddr rfl rfl) rfl rfl rfl ?_
     (refine AO.store (i := 0) rfl rfl rfl rfl rfl rfl (by rfl) (by rfl) (by exact Nat.ble_eq_true_of_le (by simp only [hdsA_len, List.length_set]; omega)) (by exact splice_msg hk (ackM m id) (by omega)) (by (dsimp only [List.set, List.cons_append, List.nil_append, List.take, List.drop]; done)) ?_)
     refine AO.nil ?_
     refine AQ.thenN ?_
     refine AW.seq ?_
     refine AW.regionD 3 (by kernel_rfl) (by kernel_rfl) ?_
     simp only [List.take_succ_cons, List.take_zero, List.drop_succ_cons, List.drop_zero]
     (refine FA.op (O.loadK rfl rfl (by repeat (first | exact List.Mem.head _ | refine List.Mem.tail _ ?_)) (by (dsimp only [List.set, List.cons_append, List.nil_append, List.take, List.drop]; done)) (by rfl)) rfl rfl rfl rfl ?_)
     (refine FA.op (O.loadK rfl rfl (by repeat (first | exact List.Mem.head _ | refine List.Mem.tail _ ?_)) (by (dsimp only [List.set, List.cons_append, List.nil_append, List.take, List.drop]; done)) (by rfl)) rfl rfl rfl rfl ?_)
     refine FA.op (O.call rfl Tryz.func56 rfl rfl rfl (message_fn (ackM m id) hmm)) rfl rfl rfl rfl ?_
     refine FA.nil ?_
     simp only [chosen, List.nil_append, List.cons_append, List.append_nil]
     (refine AO.store (i := 4) rfl rfl rfl rfl rfl rfl (by (simp [AV.cells, AV.one, roB, roI, roO, show ∀ k z, (Value.int k z).oneCell' = true from fun _ _ => rfl, show ∀ k, (Value.bool k).oneCell' = true from fun _ => rfl, *]; done)) (by rfl) (by rfl) (by rfl) (by (dsimp only [List.set, List.cons_append, List.nil_append, List.take, List.drop]; done)) ?_)
     (refine AO.store (i := 3) rfl rfl rfl rfl rfl rfl (by rfl) (by rfl) (by rfl) (by rfl) (by (dsimp only [List.set, List.cons_append, List.nil_append, List.take, List.drop]; done)) ?_)
     refine AO.op (O.assign rfl rfl) rfl rfl rfl ?_
     refine AO.nil ?_
     refine AQ.thenN ?_
     refine AW.ret ?_
     refine AQ.blockR ?_
     refine AQ.thenR ?_
     refine AQ.loopR ?_
     refine AQ.blockR ?_
     refine AQ.thenR ?_
     refine AQ.g ?_
     refine G.closeRow (b := b) (sz := 10) (n := c.inn.length) (cap := cap) 0 rfl (by rw [hdsA_len, List.length_set]) rfl hc1 hc2 ?_
     refine AQ.u ?_
     dsimp only [List.set]
     refine AQ.g ?_
     refine G.freezeCell 0 3 3 rfl rfl rfl ?_
     refine AQ.u ?_
     dsimp only [List.eraseIdx, List.set]
     refine AQ.g ?_
     refine G.freezeCell 0 2 2 rfl rfl rfl ?_
     refine AQ.u ?_
     dsimp only [List.eraseIdx, List.set]
     refine AQ.g ?_
     refine G.freezeCell 0 1 1 rfl rfl rfl ?_
     refine AQ.u ?_
     dsimp only [List.eraseIdx, List.set]
     refine FnQ.coe (AQ.ret3G rfl (by exact ResAt.cell rfl (by repeat (first | exact List.Mem.head _ | refine List.Mem.tail _ ?_)) (by (dsimp only [List.set, List.cons_append, List.nil_append, List.take, List.drop]; done)) (by rfl)) (by exact ResAt.cell rfl (by repeat (exact List.Mem.head _)) (by (dsimp only [List.set, List.cons_append, List.nil_append, List.take, List.drop]; done)) (by rfl)) (by exact ResAt.tmp rfl) ⟨_, List.nil_sublist _, .nil⟩ ⟨rfl, rfl⟩) (Coe.tup (by (repeat (first | exact CoeL.nil | refine CoeL.cons Coe.rfl ?_)); done)) (ret3S e1 (aggE_tup (aggE_of (e := ⟨_, _, _, _⟩) rfl rfl rfl rfl List.length_set.symm rfl) _))
  ·skip
   obtain rfl : k = c.inn.length := by omega
   rw [fi_none (hB p id) Hd.none hn] at h0
   refine AW.exit ?_
   refine AQ.thenX ?_
   refine AQ.loopX ?_
   refine AQ.blockX rfl ?_
   refine AQ.thenN ?_
   refine AW.seq ?_
   refine AW.region ?_
   refine AO.op (O.build rfl rfl rfl (by rfl)) rfl rfl rfl ?_
   refine AO.op (O.build rfl rfl rfl (by rfl)) rfl rfl rfl ?_
   (refine AO.store (i := 4) rfl rfl rfl rfl rfl rfl (by rfl) (by rfl) (by rfl) (by (dsimp only [List.set, List.cons_append, List.nil_append, List.take, List.drop]; done)) (by (dsimp only [List.set, List.cons_append, List.nil_append, List.take, List.drop]; done)) ?_)
   (refine AO.store (i := 3) rfl rfl rfl rfl rfl rfl (by rfl) (by rfl) (by rfl) (by (dsimp only [List.set, List.cons_append, List.nil_append, List.take, List.drop]; done)) (by (dsimp only [List.set, List.cons_append, List.nil_append, List.take, List.drop]; done)) ?_)
   refine AO.op (O.assign rfl rfl) rfl rfl rfl ?_
   refine AO.nil ?_
   refine AQ.thenN ?_
   refine AW.ret ?_
   refine FnQ.coe (AQ.ret3G rfl (by exact ResAt.cell rfl (by repeat (first | exact List.Mem.head _ | refine List.Mem.tail _ ?_)) (by (dsimp only [List.set, List.cons_append, List.nil_append, List.take, List.drop]; done)) (by rfl)) (by exact ResAt.cell rfl (by repeat (first | exact List.Mem.head _ | refine List.Mem.tail _ ?_)) (by (dsimp only [List.set, List.cons_append, List.nil_append, List.take, List.drop]; done)) (by rfl)) (by exact ResAt.tmp rfl) ⟨_, List.nil_sublist _, .nil⟩ ⟨rfl, rfl⟩) (Coe.tup (by (repeat (first | exact CoeL.nil | refine CoeL.cons Coe.rfl ?_ | refine CoeL.cons Coe.nil ?_ | refine CoeL.cons (Coe.agg ?_) ?_)); done)) (ret3S h0 rfl)
end Go.Proofs.YtoonnnifelnaiaaGreatDoor.By

namespace Go.Proofs.YtoonnnifelnaiaaGreatDoor.By
open Go.RowKit L A
set_option linter.unusedVariables false
set_option maxRecDepth 20000
set_option linter.unusedSimpArgs false
attribute [local irreducible] AW AQ AO
structure TinyE (e : Ep) : Prop where
 o : e.out.length ≤ 100
 u : e.used.length ≤ 100
 i : e.inn.length ≤ 100
 om : ∀ w ∈ e.out, SmM w.m
 im : ∀ h ∈ e.inn, SmM h.m
theorem TinyE.sm {e : Ep} (h : TinyE e) : SmE e := ⟨Nat.le_trans h.o (by omega), Nat.le_trans h.u (by omega), Nat.le_trans h.i (by omega), h.om, h.im⟩
theorem SmM.bd {m : Msg} (h : SmM m) : BdM m := ⟨h.1, Nat.le_trans h.2.2.1 (by omega), h.2.1⟩
theorem SmE.bd {e : Ep} (h : SmE e) : BdE e := ⟨Nat.le_trans h.o (by omega), Nat.le_trans h.u (by omega), Nat.le_trans h.i (by omega), fun x hx => (h.im x hx).bd⟩
theorem SmM.op {m : Msg} (h : SmM m) : m.opts.length ≤ 140737488355328 := Nat.le_trans h.2.2.1 (by omega)
/-! ### The example -/
def x1 : Ep × Msg × Int := sendR ⟨5, [], [], []⟩ 1 ⟨0, 1, 0, [], [], []⟩ 0
def x2 : Ep × List Wt × List Wt × Int := tickR ⟨6, [⟨1, ⟨0, 1, 5, [], [], []⟩, 2, 1⟩], [⟨1, 5, 128⟩], []⟩ 2
def x3 : Ep × Int × Msg × Int := recvR ⟨6, [⟨1, ⟨0, 1, 5, [], [], []⟩, 6, 2⟩], [⟨1, 5, 128⟩], []⟩ 1 ⟨0, 0, 7, [], [], []⟩ 3
end Go.Proofs.YtoonnnifelnaiaaGreatDoor.By

namespace Go.Proofs.YtoonnnifelnaiaaGreatDoor.By
open Go.RowKit L A Dk
set_option linter.unusedVariables false
set_option maxRecDepth 20000
set_option linter.unusedSimpArgs false
attribute [local irreducible] AW AQ AO

/-- Something, and a deck of which more or fewer numbers are taken. -/
def Gen (b : Nat) (l : List Int) (Φ : AV → Prop) : AV → List HE → Prop := fun r H' => Φ r ∧ ∃ k, k ≤ l.length ∧ H' = [deck b l k]
def IsNum (n : Int) (r : AV) : Prop := ∃ z : Int, 0 ≤ z ∧ z < n ∧ r = .val (.int .i64 z)
def IsBytes (n : Nat) (r : AV) : Prop := ∃ x : List UInt8, x.length ≤ n ∧ r = roB x
def Some1 (Φ : AV → Prop) : AV → List HE → Prop := fun r H' => Φ r ∧ H' = []
end Go.Proofs.YtoonnnifelnaiaaGreatDoor.By

namespace Go.Proofs.YtoonnnifelnaiaaGreatDoor.A
open Go.ChangeShapes Go.WideShapes Go.ChangeAt Go.RowKit Go.Deep L
set_option linter.unusedVariables false
set_option maxRecDepth 20000
set_option linter.unusedSimpArgs false

theorem own : ownKnob Tryz.prog.godebug = none := by kernel_rfl
theorem kids : Kids Tryz.prog (· < Tryz.prog.types.size) := kids_rows (by kernel_rfl) (by kernel_rfl)
theorem full : ∀ t e, t < Tryz.prog.types.size → Tryz.prog.underlying t = some (.slice e) → 0 < Tryz.prog.cellsOf e := slices_full_of Tryz.prog (by kernel_rfl)

theorem sameAt_ext {W W' : World} (h : Ext W W') (p : MemPlace) (hp : p.block < W.heap.size) : W.sameAt W' p := by
 have hb : W'.heap[p.block]? = W.heap[p.block]? := h.block _ hp (fun hh => hh)
 cases p with
 | cell b off => exact World.cell?_of_block (w := W) (a := ⟨b, off, none⟩) hb
 | map b => exact hb

section
variable {H : Type} {enc : TypeId × Value → H}
theorem trodAll_carry {P : Program} {W W' : World} {base : Nat} {spare : Nat → Bool} {held : Bool} : ∀ {ts : List TypeId} {vs : List Value} {ds : List (DataW H)} {ps : List MemPlace},
  DataW.TrodAll enc P W base spare held ts vs ds ps → (∀ p ∈ ps, W.sameAt W' p) → DataW.TrodAll enc P W' base spare held ts vs ds ps
 | [], [], [], _, h, _ => h
 | _ :: _, _ :: _, _ :: _, _, ⟨p, q, ⟨n, h1⟩, h2, e⟩, hs => ⟨p, q, ⟨n, DataW.trod_carry n _ _ _ h1 (fun x hx => hs x (by rw [e]; exact List.mem_append_left _ hx))⟩, trodAll_carry h2 (fun x hx => hs x (by rw [e]; exact List.mem_append_right _ hx)), e⟩

/-- A law: it returned true, and nothing that was there has turned. -/
theorem lawPost {fn : Func} {s : ChangeSpec} {W W' : World} {args : Array Value} {ds gs : List (DataW H)} {before : List MemPlace} {bt : TypeId}
  (hW : DataW.Whole enc Tryz.prog fn.params.toList s.vars false W args.toList ds gs before) (hv : s.vars = []) (hfn : s.fn H (ds ++ gs) = { results := [.lit (.bool true)], args := ds }) (hres : fn.resultTypes = #[bt]) (hbt : Tryz.prog.underlying bt = some .bool)
  (hpar : ∀ t ∈ fn.params.toList, t < Tryz.prog.types.size) (hE : Ext W W') : s.post enc Tryz.prog fn false true false false W args (.bool true) W' := by
 have hold : ∀ p ∈ before, (fun b => decide (b < W.heap.size)) p.block = true := fun p hp => by simpa using hW.lt p hp
 have hlt := hW.lt
 have hW' := hW
 obtain ⟨pa, pv, hA, hV, rfl, hz, hn⟩ := hW
 rw [hv] at hV
 obtain ⟨rfl, rfl⟩ := trodVars_none hV
 have hA' : DataW.TrodAll enc Tryz.prog W' 0 (fun _ => true) true fn.params.toList args.toList ds pa := trodAll_carry hA fun p hp => sameAt_ext hE p (hlt p (List.mem_append_left _ hp))
 have hargs : ∀ sp : Nat → Bool, (∀ p ∈ pa ++ [], sp p.block = true) → DataW.TrodAll enc Tryz.prog W' 0 sp true fn.params.toList args.toList ds pa := fun sp hsp =>
  DataW.TrodAll.respare kids full hpar hA' fun p hp => hsp p (by simpa using hp)
 have hres' : ∀ (b : Nat) (sp : Nat → Bool) (hd : Bool), DataW.TrodAll enc Tryz.prog W' b sp hd fn.resultTypes.toList ((Value.bool true).resultList fn.resultTypes.size) [.lit (.bool true)] [] := fun b sp hd => by
  rw [hres]; exact trodAll_cons_mk (shut_bool hbt true) trodAll_mk0
 refine ⟨ds, [], pa ++ [], [], pa, [], hW', by rw [hfn]; exact hres' _ _ _, by rw [hfn]; exact hargs _ hold, by rw [hfn, hv]; rfl, World.keptBut_mono (fun p hp => ⟨hp, ?_⟩) ((hE.toBelow).frame (· ∈ pa ++ [])), fun h => by cases h⟩
 exact Or.inr (by simpa using hp)

/-! ### How arguments read -/

def Old (W : World) : Nat → Prop := fun b => b < W.heap.size

variable {P : Program} {W : World}
/-- A reading of cells of a type as these. -/
theorem rd_int {base : Nat} {spare : Nat → Bool} {held : Bool} {t : TypeId} {k : IntKind} (ht : P.underlying t = some (.int k)) {n : Nat} {cs : List Value} {x : DataW H × List MemPlace} (h : DataW.trod enc P W base spare held n t cs = some x) :
  ∃ z : Int, (Lit.int k z).wf = true ∧ RelL (Old W) W [.val (.int k z)] cs := by
 cases n with
 | zero => simp [DataW.trod] at h
 | succ n =>
  obtain ⟨z, rfl, _, hw⟩ := DataW.trod_int ht h
  exact ⟨z, hw, RelL.cons (.val _) RelL.nil⟩

theorem rd_slice {α : Type} {enc' : α → List AV} {good : α → Prop} {base : Nat} {spare : Nat → Bool} {held : Bool} {t e : TypeId} (ht : P.underlying t = some (.slice e)) (hsz : ∀ a, (enc' a).length = P.cellsOf e) (hpos : 0 < P.cellsOf e)
  (he : ∀ (n : Nat) (cs : List Value) (x : DataW H × List MemPlace), cs.length = P.cellsOf e → DataW.trod enc P W base spare held n e cs = some x → ∃ a, good a ∧ RelL (Old W) W (enc' a) cs)
  {n : Nat} {cs : List Value} {x : DataW H × List MemPlace} (h : DataW.trod enc P W base spare held n t cs = some x) :
  ∃ l : List α, (∀ a ∈ l, good a) ∧ l.length ≤ maxLen ∧ RelL (Old W) W [.ro false l.length (l.flatMap enc')] cs := by
 rcases open_slice ht h with ⟨rfl, -⟩ | ⟨ad, len, cap, m, n', D, Pl, rfl, hb, hl, hm, hmm, hx, hi⟩
 ·exact ⟨[], fun _ h => (by cases h), Nat.zero_le _, RelL.cons (.emp _ _ _ (fun h => by cases h) (Nat.zero_le _)) RelL.nil⟩
 ·have hlm : len ≤ m := by rw [hmm]; split <;> omega
  have hex : ∀ i : Nat, ∃ a : Option α, i < len → ∃ a', a = some a' ∧ good a' ∧ ∃ cs', W.cells? base (ad.add (i * P.cellsOf e)) (P.cellsOf e) = some cs' ∧ RelL (Old W) W (enc' a') cs' := fun i => by
   by_cases hil : i < len
   ·obtain ⟨cs', hc, htr⟩ := hi i (by omega)
    obtain ⟨_, hcl, _⟩ := World.cells?_some hc
    obtain ⟨a, hg, hr⟩ := he _ _ _ hcl htr
    exact ⟨some a, fun _ => ⟨a, rfl, hg, cs', hc, hr⟩⟩
   ·exact ⟨none, fun h => absurd h hil⟩
  obtain ⟨f, hf⟩ := Classical.axiomOfChoice hex
  by_cases hlen0 : len = 0
  ·subst hlen0
   exact ⟨[], fun _ h => (by cases h), Nat.zero_le _, RelL.cons (.emp _ _ _ (fun h => by cases h) hm) RelL.nil⟩
  ·obtain ⟨a0, _, _⟩ := hf 0 (by omega)
   let g : Nat → α := fun i => (f i).getD a0
   have hg : ∀ i, i < len → good (g i) ∧ ∃ cs', W.cells? base (ad.add (i * P.cellsOf e)) (P.cellsOf e) = some cs' ∧ RelL (Old W) W (enc' (g i)) cs' := fun i hi' => by
    obtain ⟨a', ha', h1, h2⟩ := hf i hi'
    have : g i = a' := by simp [g, ha']
    rw [this]; exact ⟨h1, h2⟩
   have hflat : ∀ (len : Nat), (((List.range len).map g).flatMap enc').length = len * P.cellsOf e := by
    intro len
    induction len with
    | zero => simp
    | succ k ih => rw [List.range_succ, List.map_append, List.flatMap_append, List.length_append, ih]; simp [hsz, Nat.add_mul]
   have hflatget : ∀ (len i j : Nat), i < len → j < P.cellsOf e → (((List.range len).map g).flatMap enc')[i * P.cellsOf e + j]? = (enc' (g i))[j]? := by
    intro len
    induction len with
    | zero => intro i j h; omega
    | succ k ih =>
     intro i j h hj
     rw [List.range_succ, List.map_append, List.flatMap_append, List.getElem?_append]
     by_cases hik : i < k
     ·have h1 : (i + 1) * P.cellsOf e ≤ k * P.cellsOf e := Nat.mul_le_mul_right _ (by omega)
      rw [Nat.add_mul] at h1
      rw [if_pos (by rw [hflat]; omega)]
      exact ih i j hik hj
     ·have : i = k := by omega
      subst this
      rw [if_neg (by rw [hflat]; omega), hflat]
      simp
   have hblk : ad.spot = none ∧ ad.block < W.heap.size := by
    obtain ⟨_, cs', hc, _⟩ := hg 0 (by omega)
    obtain ⟨_, hcl, hat⟩ := World.cells?_some hc
    have h0 := hat 0 hpos
    simp only [Nat.zero_mul] at h0
    have h1 : W.cell? ad ≠ none := by
     intro hn
     rw [show (ad.add 0).add 0 = ad by simp [Addr.add]] at h0
     rw [hn] at h0
     have := (List.getElem?_eq_none_iff.1 h0.symm)
     omega
    refine ⟨?_, ?_⟩
    ·cases hsp : ad.spot with
     | none => rfl
     | some _ => exfalso; apply h1; unfold World.cell?; split <;> simp [hsp]
    ·cases hc : W.cell? ad with
     | none => exact absurd hc h1
     | some u => exact World.block_lt_of_cell? W ad hc
   obtain ⟨b, off, sp⟩ := ad
   obtain ⟨rfl, hblt⟩ := hblk
   have hcell : ∀ i j, i < len → j < P.cellsOf e → ∃ u, W.cell? ⟨b, off + (i * P.cellsOf e + j), none⟩ = some u ∧ ∃ x, (enc' (g i))[j]? = some x ∧ RelV (Old W) W x u := fun i j hi' hj => by
    obtain ⟨_, cs', hc, hr⟩ := hg i hi'
    obtain ⟨_, hcl, hat⟩ := World.cells?_some hc
    have h0 := hat j hj
    rw [addr_add, addr_add] at h0
    have hjl : j < cs'.length := by omega
    have hjx : j < (enc' (g i)).length := by rw [hsz]; exact hj
    refine ⟨cs'[j], by rw [← Nat.add_assoc, h0]; simp [hjl], (enc' (g i))[j], by simp [hjx], ?_⟩
    have := hr.2 j hjx
    simpa [hjl] using this
   refine ⟨(List.range len).map g, fun a ha => ?_, by simp; omega, RelL.cons ?_ RelL.nil⟩
   ·obtain ⟨i, hi', rfl⟩ := List.mem_map.1 ha
    exact (hg i (List.mem_range.1 hi')).1
   ·rw [List.length_map, List.length_range]
    have hq : ∀ j, j < (((List.range len).map g).flatMap enc').length → ∃ u, W.cell? ⟨b, off + j, none⟩ = some u ∧ ∃ x, (((List.range len).map g).flatMap enc')[j]? = some x ∧ RelV (Old W) W x u := fun j hj => by
     rw [hflat] at hj
     have h1 : j / P.cellsOf e < len := (Nat.div_lt_iff_lt_mul hpos).2 hj
     have h2 := Nat.mod_lt j hpos
     have h3 : j / P.cellsOf e * P.cellsOf e + j % P.cellsOf e = j := by rw [Nat.mul_comm]; exact Nat.div_add_mod j _
     obtain ⟨u, hu, x, hx', hr⟩ := hcell (j / P.cellsOf e) (j % P.cellsOf e) h1 h2
     rw [h3] at hu
     refine ⟨u, hu, x, ?_, hr⟩
     have := hflatget len _ _ h1 h2
     rw [h3] at this
     rw [this, hx']
    refine .ro false len _ b off cap (fun j => (W.cell? ⟨b, off + j, none⟩).getD undef) hblt (fun j hj => ?_) (fun j hj => ?_) hl hm (fun h => by cases h)
    ·obtain ⟨u, hu, _⟩ := hq j hj
     rw [hu]; rfl
    ·obtain ⟨u, hu, x, hx', hr⟩ := hq j hj
     rw [hu]
     simp only [Option.getD_some]
     have : x = (((List.range len).map g).flatMap enc')[j] := by
      rw [List.getElem?_eq_getElem hj] at hx'; exact (Option.some.inj hx').symm
     rw [← this]; exact hr

theorem flatMap_one {α : Type} (f : α → AV) (l : List α) : l.flatMap (fun a => [f a]) = l.map f := by
 induction l with
 | nil => rfl
 | cons a l ih => simp [List.flatMap_cons, ih]

theorem rd_ints {base : Nat} {spare : Nat → Bool} {held : Bool} {t e : TypeId} {k : IntKind} (ht : P.underlying t = some (.slice e)) (he : P.underlying e = some (.int k)) (h1 : P.cellsOf e = 1) {n : Nat} {cs : List Value} {x : DataW H × List MemPlace} (h : DataW.trod enc P W base spare held n t cs = some x) :
  ∃ l : List Int, (∀ z ∈ l, (Lit.int k z).wf = true) ∧ l.length ≤ maxLen ∧ RelL (Old W) W [.ro false l.length (intsA k l)] cs := by
 obtain ⟨l, h2, h3, h4⟩ := rd_slice (enc' := fun z : Int => [.val (.int k z)]) (good := fun z => (Lit.int k z).wf = true) ht (fun _ => h1.symm) (by omega) (fun n cs x _ h => rd_int he h) h
 rw [flatMap_one] at h4
 exact ⟨l, h2, h3, h4⟩
theorem rd_bytes {base : Nat} {spare : Nat → Bool} {held : Bool} {t e : TypeId} (ht : P.underlying t = some (.slice e)) (he : P.underlying e = some (.int .u8)) (h1 : P.cellsOf e = 1) {n : Nat} {cs : List Value} {x : DataW H × List MemPlace} (h : DataW.trod enc P W base spare held n t cs = some x) :
  ∃ l : List UInt8, l.length ≤ maxLen ∧ RelL (Old W) W [roB l] cs := by
 obtain ⟨l, h2, h3, h4⟩ := rd_ints ht he h1 h
 have hb : ∃ m : List UInt8, l = m.map fun b => ((b.toNat : Nat) : Int) := by
  clear h h3 h4
  induction l with
  | nil => exact ⟨[], rfl⟩
  | cons z l ih =>
   obtain ⟨m, rfl⟩ := ih fun z hz => h2 z (List.mem_cons_of_mem _ hz)
   have hz := h2 z (List.mem_cons_self ..)
   have hz' : 0 ≤ z ∧ z ≤ 255 := by simpa [Lit.wf, IntKind.min, IntKind.max, IntKind.signed, IntKind.bits] using hz
   refine ⟨UInt8.ofNat z.toNat :: m, ?_⟩
   simp only [List.map_cons, List.cons.injEq, and_true]
   rw [UInt8.toNat_ofNat_of_lt' (by simp [UInt8.size]; omega)]
   omega
 obtain ⟨m, rfl⟩ := hb
 refine ⟨m, by simpa using h3, ?_⟩
 simpa [roB, bytesA, intsA, Function.comp_def] using h4

theorem relV_of_one {R : Nat → Prop} {a : AV} {v : Value} (hc : v.cells.toList = [v]) (h : RelL R W [a] v.cells.toList) : RelV R W a v := by
 rw [hc] at h
 obtain ⟨u, r, he, h1, _⟩ := h.uncons
 cases he
 exact h1
end
end Go.Proofs.YtoonnnifelnaiaaGreatDoor.A

namespace Go.Proofs.YtoonnnifelnaiaaGreatDoor.A
open Go.ChangeShapes Go.WideShapes Go.ChangeAt Go.RowKit L
set_option linter.unusedVariables false
set_option maxRecDepth 20000
set_option linter.unusedSimpArgs false
section
variable {P : Program}

/-- Arguments of this type read as one of these. -/
def Reads (P : Program) (t : TypeId) (φ : AV → Prop) : Prop :=
 ∀ (H : Type) (enc : TypeId × Value → H) (W : World) (base b0 : Nat) (spare : Nat → Bool) (held : Bool) (v : Value) (d : DataW H) (p : List MemPlace),
  Value.okWide P W .any b0 t v → DataW.Trod enc P W base spare held t v d p → ∃ x, φ x ∧ RelV (Old W) W x v
/-- Cells of this type read as one of these. -/
structure RdC (P : Program) (t : TypeId) {α : Type} (f : α → List AV) (good : α → Prop) : Prop where
 len : ∀ a, (f a).length = P.cellsOf t
 rd : ∀ (H : Type) (enc : TypeId × Value → H) (W : World) (base : Nat) (spare : Nat → Bool) (held : Bool) (n : Nat) (cs : List Value) (x : DataW H × List MemPlace),
  DataW.trod enc P W base spare held n t cs = some x → ∃ a, good a ∧ RelL (Old W) W (f a) cs

theorem okw_int {W : World} {r : Reach} {b : Nat} {t : TypeId} {k : IntKind} (ht : P.underlying t = some (.int k)) {v : Value} (h : Value.okWide P W r b t v) : v.cells.toList = [v] := by
 cases v <;> simp [Value.okWide, ht, Cell.okWide, Cell.ok] at h <;> rfl
theorem okw_slice {W : World} {r : Reach} {b : Nat} {t e : TypeId} (ht : P.underlying t = some (.slice e)) {v : Value} (h : Value.okWide P W r b t v) : v.cells.toList = [v] := by
 cases v <;> simp [Value.okWide, ht, Cell.okWide, Cell.ok] at h <;> rfl
theorem okw_bool {W : World} {r : Reach} {b : Nat} {t : TypeId} (ht : P.underlying t = some .bool) {v : Value} (h : Value.okWide P W r b t v) : v.cells.toList = [v] := by
 cases v <;> simp [Value.okWide, ht, Cell.okWide, Cell.ok] at h <;> rfl
theorem RelL.glue {R : Nat → Prop} {W : World} {xs ys : List AV} {cs : List Value} {o k : Nat} (h1 : RelL R W xs ((cs.drop o).take k)) (h2 : RelL R W ys (cs.drop (o + k))) : RelL R W (xs ++ ys) (cs.drop o) := by
 have := h1.app h2
 rwa [show (cs.drop o).take k ++ cs.drop (o + k) = cs.drop o by rw [← List.drop_drop, List.take_append_drop]] at this
theorem RdC.int {t : TypeId} {k : IntKind} (ht : P.underlying t = some (.int k)) (h1 : P.cellsOf t = 1) : RdC P t (fun z : Int => [.val (.int k z)]) (fun z => (Lit.int k z).wf = true) :=
 ⟨fun _ => h1.symm, fun H enc W base spare held n cs x h => rd_int ht h⟩
theorem RdC.bool {t : TypeId} (ht : P.underlying t = some .bool) (h1 : P.cellsOf t = 1) : RdC P t (fun z : Bool => [.val (.bool z)]) (fun _ => True) :=
 ⟨fun _ => h1.symm, fun H enc W base spare held n cs x h => by
  obtain ⟨b, rfl, _⟩ := DataW.trod_bool ht h
  exact ⟨b, trivial, RelL.cons (.val _) RelL.nil⟩⟩
theorem RdC.string {t : TypeId} (ht : P.underlying t = some .string) (h1 : P.cellsOf t = 1) : RdC P t (fun s : ByteArray => [.val (.string s)]) (fun s => s.size ≤ maxLen) :=
 ⟨fun _ => h1.symm, fun H enc W base spare held n cs x h => by
  obtain ⟨b, rfl, _, hs⟩ := DataW.trod_string ht h
  exact ⟨b, hs, RelL.cons (.val _) RelL.nil⟩⟩
theorem RdC.slice {t e : TypeId} {α : Type} {f : α → List AV} {good : α → Prop} (ht : P.underlying t = some (.slice e)) (h1 : P.cellsOf t = 1) (hpos : 0 < P.cellsOf e) (h : RdC P e f good) :
  RdC P t (fun l : List α => [.ro false l.length (l.flatMap f)]) (fun l => (∀ a ∈ l, good a) ∧ l.length ≤ maxLen) :=
 ⟨fun _ => h1.symm, fun H enc W base spare held n cs x hx => by
  obtain ⟨l, h2, h3, h4⟩ := rd_slice ht h.len hpos (fun n cs x _ hx => h.rd H enc W base spare held n cs x hx) hx
  exact ⟨l, ⟨h2, h3⟩, h4⟩⟩
theorem RdC.bytes {t e : TypeId} (ht : P.underlying t = some (.slice e)) (he : P.underlying e = some (.int .u8)) (h1 : P.cellsOf t = 1) (h2 : P.cellsOf e = 1) : RdC P t (fun l : List UInt8 => [roB l]) (fun l => l.length ≤ maxLen) :=
 ⟨fun _ => h1.symm, fun H enc W base spare held n cs x hx => rd_bytes ht he h2 hx⟩
theorem RdC.ints {t e : TypeId} {k : IntKind} (ht : P.underlying t = some (.slice e)) (he : P.underlying e = some (.int k)) (h1 : P.cellsOf t = 1) (h2 : P.cellsOf e = 1) :
  RdC P t (fun l : List Int => [.ro false l.length (intsA k l)]) (fun l => (∀ z ∈ l, (Lit.int k z).wf = true) ∧ l.length ≤ maxLen) :=
 ⟨fun _ => h1.symm, fun H enc W base spare held n cs x hx => by
  obtain ⟨l, h3, h4, h5⟩ := rd_ints ht he h2 hx
  exact ⟨l, ⟨h3, h4⟩, h5⟩⟩
/-- Fields, one after the other, from cell o on. -/
structure FR (P : Program) (fs : List Field) (o m : Nat) {α : Type} (f : α → List AV) (good : α → Prop) : Prop where
 len : ∀ a, (f a).length = m
 rd : ∀ (H : Type) (enc : TypeId × Value → H) (W : World) (base : Nat) (spare : Nat → Bool) (held : Bool) (cs : List Value), cs.length = o + m →
  (∀ fd ∈ fs, ∃ (n : Nat) (y : DataW H × List MemPlace), DataW.trod enc P W base spare held n fd.type ((cs.drop fd.offset).take (P.cellsOf fd.type)) = some y) → ∃ a, good a ∧ RelL (Old W) W (f a) (cs.drop o)
theorem FR.nil {o : Nat} : FR P [] o 0 (fun _ : Unit => []) (fun _ => True) :=
 ⟨fun _ => rfl, fun H enc W base spare held cs hl _ => ⟨(), trivial, by rw [List.drop_of_length_le (by omega)]; exact RelL.nil⟩⟩
theorem FR.cons {fd : Field} {fs : List Field} {o k m : Nat} {α β : Type} {f : α → List AV} {good : α → Prop} {g : β → List AV} {good' : β → Prop} (h : RdC P fd.type f good) (ho : fd.offset = o) (hk : P.cellsOf fd.type = k) (hs : FR P fs (o + k) m g good') :
  FR P (fd :: fs) o (k + m) (fun p : α × β => f p.1 ++ g p.2) (fun p => good p.1 ∧ good' p.2) :=
 ⟨fun p => by rw [List.length_append, h.len, hs.len, hk], fun H enc W base spare held cs hl hall => by
  obtain ⟨n, y, h1⟩ := hall fd (List.mem_cons_self ..)
  rw [ho, hk] at h1
  obtain ⟨a, h2, h3⟩ := h.rd H enc W base spare held _ _ _ h1
  obtain ⟨b, h4, h5⟩ := hs.rd H enc W base spare held cs (by omega) (fun fd hfd => hall fd (List.mem_cons_of_mem _ hfd))
  exact ⟨(a, b), ⟨h2, h4⟩, RelL.glue h3 h5⟩⟩
theorem RdC.struct {t : TypeId} {fs : List Field} {m : Nat} {α : Type} {f : α → List AV} {good : α → Prop} (ht : P.underlying t = some (.struct fs.toArray)) (hm : P.cellsOf t = m) (h : FR P fs 0 m f good) : RdC P t f good :=
 ⟨fun a => by rw [h.len, hm], fun H enc W base spare held n cs x hx => by
  obtain ⟨xs, n', _, _, hl, hlen, hf⟩ := DataW.trod_struct ht hx
  obtain ⟨a, h1, h2⟩ := h.rd H enc W base spare held cs (by omega) (fun fd hfd => by
   obtain ⟨i, hi, rfl⟩ := List.getElem_of_mem hfd
   have h0 := hf i fs[i] (by simp [hi])
   have hxi : i < xs.length := by rw [hlen]; simpa using hi
   rw [List.getElem?_eq_getElem hxi] at h0
   exact ⟨n', _, h0⟩)
  exact ⟨a, h1, by simpa using h2⟩⟩
theorem RdC.map {t : TypeId} {α β : Type} {f : α → List AV} {good : α → Prop} {g : β → List AV} {good' : β → Prop} (h : RdC P t f good) (φ : α → β) (hφ : ∀ a, good a → good' (φ a) ∧ f a = g (φ a)) (hl : ∀ b, (g b).length = P.cellsOf t) : RdC P t g good' :=
 ⟨hl, fun H enc W base spare held n cs x hx => by
  obtain ⟨a, h1, h2⟩ := h.rd H enc W base spare held n cs x hx
  exact ⟨φ a, (hφ a h1).1, (hφ a h1).2 ▸ h2⟩⟩
theorem RdC.reads {t : TypeId} {α : Type} {f : α → List AV} {good : α → Prop} (h : RdC P t f good) (g : α → AV) (hg : ∀ a, f a = [g a]) (hw : ∀ (W : World) (b : Nat) (v : Value), Value.okWide P W .any b t v → v.cells.toList = [v]) : Reads P t (fun x => ∃ a, good a ∧ x = g a) :=
 fun H enc W base b0 spare held v d p hv ⟨n, hx⟩ => by
  obtain ⟨a, h1, h2⟩ := h.rd H enc W base spare held n _ _ hx
  rw [hg] at h2
  exact ⟨g a, ⟨a, h1, rfl⟩, relV_of_one (hw _ _ _ hv) h2⟩
theorem Reads.int {t : TypeId} {k : IntKind} (ht : P.underlying t = some (.int k)) (h1 : P.cellsOf t = 1) : Reads P t (fun x => ∃ z : Int, (Lit.int k z).wf = true ∧ x = .val (.int k z)) := (RdC.int ht h1).reads (fun z => .val (.int k z)) (fun _ => rfl) (fun _ _ _ h => okw_int ht h)
theorem Reads.bool {t : TypeId} (ht : P.underlying t = some .bool) (h1 : P.cellsOf t = 1) : Reads P t (fun x => ∃ z : Bool, True ∧ x = .val (.bool z)) := (RdC.bool ht h1).reads (fun z => .val (.bool z)) (fun _ => rfl) (fun _ _ _ h => okw_bool ht h)
theorem Reads.bytes {t e : TypeId} (ht : P.underlying t = some (.slice e)) (he : P.underlying e = some (.int .u8)) (h1 : P.cellsOf t = 1) (h2 : P.cellsOf e = 1) : Reads P t (fun x => ∃ l : List UInt8, l.length ≤ maxLen ∧ x = roB l) := (RdC.bytes ht he h1 h2).reads roB (fun _ => rfl) (fun _ _ _ h => okw_slice ht h)
theorem Reads.ints {t e : TypeId} {k : IntKind} (ht : P.underlying t = some (.slice e)) (he : P.underlying e = some (.int k)) (h1 : P.cellsOf t = 1) (h2 : P.cellsOf e = 1) :
  Reads P t (fun x => ∃ l : List Int, ((∀ z ∈ l, (Lit.int k z).wf = true) ∧ l.length ≤ maxLen) ∧ x = .ro false l.length (intsA k l)) := (RdC.ints ht he h1 h2).reads (fun l => .ro false l.length (intsA k l)) (fun _ => rfl) (fun _ _ _ h => okw_slice ht h)
theorem Reads.slice {t e : TypeId} {α : Type} {f : α → List AV} {good : α → Prop} (ht : P.underlying t = some (.slice e)) (h1 : P.cellsOf t = 1) (hpos : 0 < P.cellsOf e) (h : RdC P e f good) :
  Reads P t (fun x => ∃ l : List α, ((∀ a ∈ l, good a) ∧ l.length ≤ maxLen) ∧ x = .ro false l.length (l.flatMap f)) := (RdC.slice ht h1 hpos h).reads (fun l => .ro false l.length (l.flatMap f)) (fun _ => rfl) (fun _ _ _ h => okw_slice ht h)

/-- All arguments. -/
def ReadsL (P : Program) : List TypeId → List (AV → Prop) → Prop
 | [], [] => True
 | t :: ts, φ :: φs => Reads P t φ ∧ ReadsL P ts φs
 | _, _ => False
theorem ReadsL.nil : ReadsL P [] [] := trivial
theorem ReadsL.cons {t : TypeId} {ts : List TypeId} {φ : AV → Prop} {φs : List (AV → Prop)} (h : Reads P t φ) (hs : ReadsL P ts φs) : ReadsL P (t :: ts) (φ :: φs) := ⟨h, hs⟩
def AllOf : List (AV → Prop) → (List AV → Prop) → Prop
 | [], K => K []
 | φ :: φs, K => ∀ x, φ x → AllOf φs (fun xs => K (x :: xs))

theorem readAll {H : Type} {enc : TypeId × Value → H} {W : World} {base b0 : Nat} {spare : Nat → Bool} {held : Bool} : ∀ {ts : List TypeId} {φs : List (AV → Prop)} {K : List AV → Prop} {vs : List Value} {ds : List (DataW H)} {ps : List MemPlace},
  ReadsL P ts φs → AllOf φs K → (∀ (j : Nat) t v, ts[j]? = some t → vs[j]? = some v → Value.okWide P W .any b0 t v) → DataW.TrodAll enc P W base spare held ts vs ds ps → ∃ xs, K xs ∧ RelL (Old W) W xs vs
 | [], [], K, vs, ds, ps, _, hK, _, hT => by
  obtain ⟨rfl, _, _⟩ := trodAll_nil hT
  exact ⟨[], hK, RelL.nil⟩
 | [], _ :: _, _, _, _, _, h, _, _, _ => h.elim
 | _ :: _, [], _, _, _, _, h, _, _, _ => h.elim
 | t :: ts, φ :: φs, K, vs, ds, ps, h, hK, hv, hT => by
  obtain ⟨v0, vs0, d0, ds0, p0, q0, rfl, rfl, rfl, h0, r0⟩ := trodAll_cons hT
  obtain ⟨x, h1, h2⟩ := h.1 H enc W base b0 spare held v0 d0 p0 (hv 0 t v0 rfl rfl) h0
  obtain ⟨xs, h3, h4⟩ := readAll h.2 (hK x h1) (fun j t v a b => hv (j + 1) t v a b) r0
  exact ⟨x :: xs, h3, RelL.cons h2 h4⟩
end

end Go.Proofs.YtoonnnifelnaiaaGreatDoor.A

namespace Go.Proofs.YtoonnnifelnaiaaGreatDoor.A
open Go.RowKit L
section
variable {Γ : Cx} {P : Program} {E : Env} {H : List HE} {N : Nat} {o : Oper}
/-- A guarded call that is made, to which one own block is given. -/
theorem AO.callMGw {Q : Exit → Act → World → Prop} {ops : Array Oper} {rest : List Oper} {f : FuncId} {d : Nat} {xs : List Operand} {ats : Array TypeId} {args : List AV} (i : Nat) {e : HE} {Post : AV → List HE → Prop} {fn : Func} (ho : o.op = .call { callee := .value (.func f), args := xs.toArray, argTypes := ats }) (hw : wantedIs ops E o = some true) (hfn : P.funcs[f]? = some fn) (hn : (fn.name == "runtime.NumGoroutine") = false) (hb : fn.body.isNone = false)
  (hx : evs E xs = some args) (hd : o.dst = some d) (hN : Nat.ble (d + 1) Γ.N = true) (hi : H[i]? = some e) (h : Sp P f args [e] Post) (next : ∀ r H', Post r H' → AO Γ P ops Q rest ((d, r) :: E) (H' ++ H.eraseIdx i)) : AO Γ P ops Q (o :: rest) E H := fun R a W hs ha => by
 have h1 := AO.callMG (o := { o with guard := none }) i ho rfl hfn hn hb hx hd hN hi h next R a W hs ha
 unfold wpList at h1 ⊢
 rw [if_pos (wanted_is ha hw)]
 rw [if_pos (by unfold Region.wanted; rfl)] at h1
 exact h1
end
end Go.Proofs.YtoonnnifelnaiaaGreatDoor.A

namespace Go.Proofs.YtoonnnifelnaiaaGreatDoor.By
open Go.RowKit L A Dk
set_option linter.unusedVariables false
set_option maxRecDepth 20000
set_option linter.unusedSimpArgs false
attribute [local irreducible] AW AQ AO
def bareM (t c i : Int) : Msg := ⟨t, c, i, [], [], []⟩
def ReqOk (m : Msg) : Prop := ∃ t c i : Int, 0 ≤ t ∧ t < 2 ∧ 0 ≤ c ∧ c ≤ 2 ∧ 0 ≤ i ∧ i ≤ 65535 ∧ m = bareM t c i
def IsReq (r : AV) : Prop := ∃ m, ReqOk m ∧ r = aggM m
def c3 : List Int := [1, 2, 0]
def c6 : List Int := [0, 1, 9, 10, 65534, 65535]
def IsBare (r : AV) : Prop := ∃ t c i : Int, r = aggM (bareM t c i)
end Go.Proofs.YtoonnnifelnaiaaGreatDoor.By

namespace Go.Proofs.YtoonnnifelnaiaaGreatDoor.By
open Go.RowKit L A
set_option linter.unusedVariables false
set_option maxRecDepth 20000
set_option linter.unusedSimpArgs false
theorem stayF_key {now : Int} {w w' : Wt} (h : stayF now w = some w') : w'.peer = w.peer ∧ w'.m = w.m := by
 unfold stayF at h
 split at h
 ·cases h; exact ⟨rfl, rfl⟩
 ·split at h
  ·cases h; exact ⟨rfl, rfl⟩
  ·cases h
theorem stay_keys (now : Int) : ∀ l : List Wt, ((l.filterMap (stayF now)).map kWt).Sublist (l.map kWt)
 | [] => by simp
 | w :: l => by
  rw [List.filterMap_cons]
  cases hs : stayF now w with
  | none => exact (stay_keys now l).cons _
  | some w' =>
   obtain ⟨h1, h2⟩ := stayF_key hs
   simp only [List.map_cons, kWt, h1, h2]
   exact (stay_keys now l).cons_cons _
theorem clean_val {e : Ep} (h : ValE e) (now : Int) : ValE (cleanE e now) := by
 obtain ⟨h1, h2, h3, h4, h5, h6, h7, h8, h9⟩ := h
 refine ⟨h1, h2, Nat.le_trans (clean_used e now) h3, Nat.le_trans (clean_inn e now) h4, h5, h6, fun u hu => h7 u (List.mem_filter.1 hu).1, fun x hx => h8 x (List.mem_filter.1 hx).1, ?_⟩
 exact h9.sublist (List.Sublist.map _ (List.filter_sublist))
theorem tick_val {e : Ep} (h : ValE e) {now : Int} (ht : TimeOk now) : (tickR e now).2.2.2 = 0 ∧ ValE (tickR e now).1 ∧ (tickR e now).1.next = e.next ∧ (tickR e now).1.used = (cleanE e now).used := by
 rw [tickR, if_pos ⟨h, ht⟩]
 refine ⟨rfl, ?_, rfl, rfl⟩
 obtain ⟨h1, h2, h3, h4, h5, h6, h7, h8, h9⟩ := h
 have hc := clean_val ⟨h1, h2, h3, h4, h5, h6, h7, h8, h9⟩ now
 refine ⟨h1, Nat.le_trans (List.length_filterMap_le _ _) h2, hc.2.2.1, hc.2.2.2.1, ?_, h6.sublist (stay_keys now e.out), hc.2.2.2.2.2.2.1, hc.2.2.2.2.2.2.2.1, hc.2.2.2.2.2.2.2.2⟩
 intro w hw
 obtain ⟨w0, hw0, hs⟩ := List.mem_filterMap.1 hw
 obtain ⟨g1, g2, g3, g4, g5, g6⟩ := h5 w0 hw0
 unfold stayF at hs
 split at hs
 ·cases hs; exact ⟨g1, g2, g3, g4, g5, g6⟩
 ·split at hs
  ·cases hs
   have := pw_bd (s := w0.sent) (by omega) (by omega)
   exact ⟨g1, g2, g3, by show 0 ≤ now + pw w0.sent; have := ht.1; omega, by show 1 ≤ w0.sent + 1; omega, by show w0.sent + 1 ≤ 5; omega⟩
  ·cases hs
theorem free_in (out : List Wt) (used : List Us) (p next : Int) : 0 ≤ freeI out used p next ∧ freeI out used p next ≤ 65535 := by
 unfold freeI; omega
theorem freeI_spec {out : List Wt} {used : List Us} {p next : Int} (h : used.length + out.length ≤ 48) : takenB out used p (freeI out used p next) = false := (freeK_spec h).2.1
theorem nodup_snoc_map {l : List Wt} {w : Wt} (h : (l.map kWt).Nodup) (hw : ∀ x ∈ l, kWt x ≠ kWt w) : ((l ++ [w]).map kWt).Nodup := by
 rw [List.map_append, List.map_singleton, nodup_snoc]
 refine ⟨h, fun hm => ?_⟩
 obtain ⟨x, hx, he⟩ := List.mem_map.1 hm
 exact hw x hx he
theorem sent_val {c : Ep} (h : ValE c) {p now : Int} {m : Msg} (hp : PeerOk p) (hn : TimeOk now) (hm : ValM m) (hf : ¬SendFull c m) : ValE (sentE c p m now (freeI c.out c.used p c.next)) := by
 obtain ⟨h1, h2, h3, h4, h5, h6, h7, h8, h9⟩ := h
 have hid := free_in c.out c.used p c.next
 have htk := freeI_spec (p := p) (next := c.next) (out := c.out) (used := c.used) (by omega)
 generalize freeI c.out c.used p c.next = id at *
 have hfu : c.used.length < 32 := by by_cases g : c.used.length < 32; exact g; exact absurd (.inl (by omega)) hf
 have hn2 : 0 ≤ (id + 1) % 65536 ∧ (id + 1) % 65536 ≤ 65535 := by omega
 have hus : ∀ u ∈ c.used ++ [(⟨p, id, now + 128⟩ : Us)], OkU u := by
  intro u hu
  rcases List.mem_append.1 hu with hu | hu
  ·exact h7 u hu
  ·obtain rfl := List.mem_singleton.1 hu
   exact ⟨hp, hid, by show 0 ≤ now + 128; have := hn.1; omega⟩
 have hul : (c.used ++ [(⟨p, id, now + 128⟩ : Us)]).length ≤ 32 := by rw [List.length_append, List.length_singleton]; omega
 by_cases hty : m.ty = 0
 ·rw [sentE_con hty]
  have hfo : c.out.length < 16 := by by_cases g : c.out.length < 16; exact g; exact absurd (.inr ⟨hty, by omega⟩) hf
  refine ⟨hn2, by rw [List.length_append, List.length_singleton]; omega, hul, h4, ?_, ?_, hus, h8, h9⟩
  ·intro w hw
   rcases List.mem_append.1 hw with hw | hw
   ·exact h5 w hw
   ·obtain rfl := List.mem_singleton.1 hw
    exact ⟨hp, hty, hm.withId hid, by show 0 ≤ now + 2; have := hn.1; omega, by show (1 : Int) ≤ 1; omega, by show (1 : Int) ≤ 5; omega⟩
  ·refine nodup_snoc_map h6 fun x hx he => ?_
   have he1 : x.peer = p := congrArg Prod.fst he
   have he2 : x.m.id = id := congrArg Prod.snd he
   unfold takenB at htk
   rw [Bool.or_eq_false_iff, List.any_eq_false, List.any_eq_false] at htk
   have := htk.2 x hx
   simp [wB, he1, he2] at this
 ·rw [sentE_non hty]
  exact ⟨hn2, h2, hul, h4, h5, h6, hus, h8, h9⟩
/-- What was given out and still lives is known to the endpoint. -/
def Knows (e : Ep) (now : Int) (g : List Us) : Prop := ∀ u ∈ g, now < u.till → u ∈ e.used
theorem Knows.later {e : Ep} {now now' : Int} {g : List Us} (h : Knows e now g) (hle : now ≤ now') : Knows e now' g := fun u hu hl => h u hu (by omega)
theorem Knows.clean {e e' : Ep} {now : Int} {g : List Us} (h : Knows e now g) (hu : e'.used = (cleanE e now).used) : Knows e' now g := by
 intro u hg hl
 rw [hu]
 exact List.mem_filter.2 ⟨h u hg hl, by simp [liveU]; omega⟩
theorem Knows.next {e : Ep} {now : Int} {g : List Us} (h : Knows e now g) (n : Int) : Knows { e with next := n } now g := h
theorem val_new {n : Int} (hn : IdOk n) : ValE ⟨n, [], [], []⟩ := ⟨hn, by simp, by simp, by simp, by simp, by simp, by simp, by simp, by simp⟩
end Go.Proofs.YtoonnnifelnaiaaGreatDoor.By

namespace Go.Proofs.YtoonnnifelnaiaaGreatDoor.By
open Go.RowKit L A
set_option linter.unusedVariables false
set_option maxRecDepth 20000
set_option linter.unusedSimpArgs false
/-- What is sent: the id tells the payload. -/
abbrev payM (t i : Int) : Msg := ⟨t, 2, i, [], [], [u8 (i + 1)]⟩
abbrev ansM (i : Int) : Msg := ⟨2, 68, i, [], [], [u8 (i + 1)]⟩
structure Pk where
 m : Msg
 at_ : Int
def Pk.none : Pk := ⟨Msg.none, 0⟩
abbrev cP (q : Pk) : List AV := [.val (.int .i64 q.m.ty), .val (.int .i64 q.m.code), .val (.int .i64 q.m.id), roB q.m.tok, roO q.m.opts, roB q.m.pay, .val (.int .i64 q.at_)]
def cellsP (q : Pk) : List AV := cP q
theorem cellsP_len (q : Pk) : (cellsP q).length = 7 := rfl
def pksA (l : List Pk) : List AV := l.flatMap cellsP
abbrev pk (l : List Pk) (k : Nat) : Pk := l.getD k Pk.none
@[simp] theorem pksA_len (l : List Pk) : (pksA l).length = l.length * 7 := flat_len cellsP_len l
theorem pksA_snoc (a : List Pk) (w : Pk) : pksA (a ++ [w]) = pksA a ++ cP w := flat_snoc a w
theorem getP {l : List Pk} {k : Nat} (h : k < l.length) {j : Nat} (hj : j = k) : ((pksA l).drop (0 + j * 7)).take 7 = cP (pk l k) := by rw [Nat.zero_add]; exact flat_at cellsP_len Pk.none h hj
theorem u8_val {i : Int} (hi : 0 ≤ i ∧ i < 255) : ((u8 i).toNat : Int) = i := by
 simp only [u8, UInt8.toNat_ofNat']
 omega
/-! ### The sender -/
structure SideA (a : Ep) (n : Nat) : Prop where
 v : ValE a
 nx : a.next = (n : Int)
 us : ∀ u ∈ a.used, u.id < (n : Int)
 ou : ∀ w ∈ a.out, w.m.id < (n : Int) ∧ w.m = payM 0 w.m.id
theorem free_next {out : List Wt} {used : List Us} {p : Int} {n : Nat} (hn : n ≤ 65535) (hu : ∀ u ∈ used, u.id < (n : Int)) (ho : ∀ w ∈ out, w.m.id < (n : Int)) : freeI out used p (n : Int) = (n : Int) := by
 have hk : freeK out used p (n : Int) = 0 := by
  unfold freeK
  rw [show List.range 64 = 0 :: (List.range 63).map (· + 1) by decide +kernel, List.find?_cons_of_pos]
  ·rfl
  ·have e : ((n : Int) + ((0 : Nat) : Int)) % 65536 = (n : Int) := by omega
   rw [e]
   unfold takenB
   rw [Bool.not_eq_true', Bool.or_eq_false_iff, List.any_eq_false, List.any_eq_false]
   constructor
   ·intro u h; have := hu u h; simp [uB]; omega
   ·intro w h; have := ho w h; simp [wB]; omega
 rw [freeI, hk]; omega
theorem again_mem {now : Int} {l : List Wt} {w : Wt} (h : w ∈ l.filterMap (againF now)) : ∃ x ∈ l, w.m = x.m := by
 obtain ⟨x, hx, hs⟩ := List.mem_filterMap.1 h
 refine ⟨x, hx, ?_⟩
 unfold againF at hs
 split at hs
 ·cases hs
 ·split at hs
  ·cases hs; rfl
  ·cases hs
/-! ### The net -/
def NetOk (net : List Pk) (n : Nat) (now : Int) : Prop := ∀ q ∈ net, ∃ t i : Int, (t = 0 ∨ t = 1) ∧ 0 ≤ i ∧ i < (n : Int) ∧ q.m = payM t i ∧ 0 ≤ q.at_ ∧ q.at_ ≤ now
theorem NetOk.later {net : List Pk} {n n' : Nat} {now now' : Int} (h : NetOk net n now) (hn : n ≤ n') (hnow : now ≤ now') : NetOk net n' now' := fun q hq => by
 obtain ⟨t, i, h1, h2, h3, h4, h5, h6⟩ := h q hq
 exact ⟨t, i, h1, h2, by omega, h4, h5, by omega⟩
theorem NetOk.snoc {net : List Pk} {n : Nat} {now : Int} (h : NetOk net n now) {q : Pk} {t i : Int} (ht : t = 0 ∨ t = 1) (hi : 0 ≤ i ∧ i < (n : Int)) (hm : q.m = payM t i) (ha : 0 ≤ q.at_ ∧ q.at_ ≤ now) : NetOk (net ++ [q]) n now := fun x hx => by
 rcases List.mem_append.1 hx with hx | hx
 ·exact h x hx
 ·obtain rfl := List.mem_singleton.1 hx
  exact ⟨t, i, ht, hi.1, hi.2, hm, ha.1, ha.2⟩
/-! ### The receiver -/
def SideB (b : Ep) (D : List Int) : Prop := ∀ h ∈ b.inn, h.peer = 1 ∧ h.ans = true ∧ h.m = ansM h.id ∧ h.id ∈ D
/-- What was done and may still come is remembered. -/
def Kept (b : Ep) (D : List Int) (net : List Pk) (now : Int) : Prop := ∀ q ∈ net, q.m.id ∈ D → now < q.at_ + 128 → ∃ h ∈ b.inn, h.id = q.m.id ∧ q.at_ + 128 ≤ h.till
theorem Kept.later {b : Ep} {D : List Int} {net : List Pk} {now now' : Int} (h : Kept b D net now) (hn : now ≤ now') : Kept b D net now' := fun q hq hd hl => h q hq hd (by omega)
theorem Kept.snoc {b : Ep} {D : List Int} {net : List Pk} {now : Int} (h : Kept b D net now) {q : Pk} (hq : q.m.id ∈ D → now < q.at_ + 128 → ∃ x ∈ b.inn, x.id = q.m.id ∧ q.at_ + 128 ≤ x.till) : Kept b D (net ++ [q]) now := fun x hx hd hl => by
 rcases List.mem_append.1 hx with hx | hx
 ·exact h x hx hd hl
 ·obtain rfl := List.mem_singleton.1 hx
  exact hq hd hl
theorem Kept.clean {b : Ep} {D : List Int} {net : List Pk} {now : Int} (h : Kept b D net now) : Kept (cleanE b now) D net now := fun q hq hd hl => by
 obtain ⟨x, hx, h1, h2⟩ := h q hq hd hl
 exact ⟨x, List.mem_filter.2 ⟨hx, by simp [liveH]; omega⟩, h1, h2⟩
theorem SideB.clean {b : Ep} {D : List Int} (h : SideB b D) (now : Int) : SideB (cleanE b now) D := fun x hx => h x (List.mem_filter.1 hx).1
end Go.Proofs.YtoonnnifelnaiaaGreatDoor.By

namespace Go.Proofs.YtoonnnifelnaiaaGreatDoor.By
open Go.RowKit L A
set_option linter.unusedVariables false
set_option maxRecDepth 20000
set_option linter.unusedSimpArgs false
theorem clean_clean (b : Ep) (now : Int) : cleanE (cleanE b now) now = cleanE b now := by
 simp only [cleanE, List.filter_filter, Bool.and_self]
abbrev gotE (c : Ep) (h : Hd) : Ep := ⟨c.next, c.out, c.used, c.inn ++ [h]⟩
theorem clean_got {c : Ep} {now : Int} (hc : cleanE c now = c) {h : Hd} (hl : liveH now h = true) : cleanE (gotE c h) now = gotE c h := by
 have h1 : c.used.filter (liveU now) = c.used := congrArg Ep.used hc
 have h2 : c.inn.filter (liveH now) = c.inn := congrArg Ep.inn hc
 simp only [cleanE, gotE, h1, List.filter_append, h2, List.filter_cons_of_pos hl, List.filter_nil]
theorem got_val {c : Ep} (h : ValE c) {x : Hd} (hx : OkH x) (hl : c.inn.length < 16) (hn : ∀ y ∈ c.inn, kHd y ≠ kHd x) : ValE (gotE c x) := by
 obtain ⟨h1, h2, h3, h4, h5, h6, h7, h8, h9⟩ := h
 refine ⟨h1, h2, h3, by show (c.inn ++ [x]).length ≤ 16; rw [List.length_append, List.length_singleton]; omega, h5, h6, h7, ?_, ?_⟩
 ·intro y hy
  have hy' : y ∈ c.inn ++ [x] := hy
  rcases List.mem_append.1 hy' with hy' | hy'
  ·exact h8 y hy'
  ·obtain rfl := List.mem_singleton.1 hy'
   exact hx
 ·show ((c.inn ++ [x]).map kHd).Nodup
  rw [List.map_append, List.map_singleton, nodup_snoc]
  refine ⟨h9, fun hm => ?_⟩
  obtain ⟨y, hy, he⟩ := List.mem_map.1 hm
  exact hn y hy he
theorem find_snoc {p : Hd → Bool} {l : List Hd} {x : Hd} (hl : l.findIdx? p = none) (hx : p x = true) : (l ++ [x]).findIdx? p = some l.length := by
 rw [List.findIdx?_append, hl]
 simp [List.findIdx?_cons, hx]
/-! ### The map of what was done -/
abbrev kU (i : Int) : Lit := .int .u8 ((u8 (i + 1)).toNat : Int)
structure DoneM (M : Ents) (D : List Int) : Prop where
 has : ∀ i : Int, 0 ≤ i → i < 200 → mBool (mGet M (kU i) (.bool false)) = decide (i ∈ D)
 len : M.length ≤ D.length
theorem DoneM.nil : DoneM [] [] := ⟨fun i _ _ => rfl, Nat.le_refl _⟩
theorem isKeyU (i : Int) : WideAt.IsKeyLit (kU i) := trivial
theorem DoneM.put {M : Ents} {D : List Int} (h : DoneM M D) {i : Int} (hi : 0 ≤ i ∧ i < 200) : DoneM (mPut M (kU i) (.bool true)) (i :: D) := by
 refine ⟨fun j hj1 hj2 => ?_, ?_⟩
 ·by_cases he : j = i
  ·subst he
   rw [mGet_same (isKeyU _)]; simp [mBool]
  ·rw [mGet_other (isKeyU _) (isKeyU _) (by
    intro hh
    apply he
    have h1 : ((u8 (i + 1)).toNat : Int) = ((u8 (j + 1)).toNat : Int) := by injection hh
    rw [u8_val (by omega), u8_val (by omega)] at h1
    omega), h.has j hj1 hj2]
   refine decide_eq_decide.2 ?_
   rw [List.mem_cons]
   exact ⟨.inr, fun hh => hh.resolve_left he⟩
 ·have := mPut_len M (kU i) (.bool true)
  have := h.len
  rw [List.length_cons]; omega
end Go.Proofs.YtoonnnifelnaiaaGreatDoor.By

namespace Go.Proofs.YtoonnnifelnaiaaGreatDoor.By
open Go.RowKit L A
set_option linter.unusedVariables false
set_option maxRecDepth 20000
set_option linter.unusedSimpArgs false
theorem recv_cases {b : Ep} {p now : Int} {m : Msg} (hv : ValE b) (hp : PeerOk p) (hto : TimeOk now) (hm : ValM m) (hty : m.ty = 0 ∨ m.ty = 1) (hc : m.code ≠ 0) :
  (∃ j, j < (cleanE b now).inn.length ∧ (hd (cleanE b now).inn j).peer = p ∧ (hd (cleanE b now).inn j).id = m.id ∧ recvR b p m now = (cleanE b now, 2, (hd (cleanE b now).inn j).m, 0)) ∨
  ((cleanE b now).inn.findIdx? (hB p m.id) = none ∧ recvR b p m now = (cleanE b now, 6, Msg.none, 0)) ∨
  ((cleanE b now).inn.findIdx? (hB p m.id) = none ∧ (cleanE b now).inn.length < 16 ∧ recvR b p m now = (gotE (cleanE b now) ⟨p, m.id, now + 128, false, Msg.none⟩, 1, Msg.none, 0)) := by
 have e0 : recvR b p m now = gotR (cleanE b now) p m now := by
  rw [recvR, if_pos ⟨hv, hto, hp, hm⟩, if_neg (by omega), if_neg hc]
 rw [e0]
 generalize cleanE b now = c
 unfold gotR
 cases hf : c.inn.findIdx? (hB p m.id) with
 | some j =>
  refine .inl ⟨j, ?_⟩
  rw [List.findIdx?_eq_some_iff_getElem] at hf
  obtain ⟨hj, hp', -⟩ := hf
  have he : hd c.inn j = c.inn[j] := by simp [hj]
  rw [← he] at hp'
  unfold hB at hp'
  rw [Bool.and_eq_true, beq_iff_eq, beq_iff_eq] at hp'
  exact ⟨hj, hp'.1, hp'.2, rfl⟩
 | none =>
  right
  by_cases hfull : 16 ≤ c.inn.length
  ·exact .inl ⟨rfl, if_pos hfull⟩
  ·exact .inr ⟨rfl, by omega, if_neg hfull⟩
theorem hB_none {l : List Hd} {p id : Int} (hf : l.findIdx? (hB p id) = none) {x : Hd} (hx : x ∈ l) (h1 : x.peer = p) : x.id ≠ id := by
 intro h2
 have := List.findIdx?_eq_none_iff.1 hf x hx
 unfold hB at this
 rw [h1, h2] at this
 simp at this
/-- The answer to a request that was just met. -/
theorem answer_new {c : Ep} {p id now : Int} {r : Msg} (hv : ValE c) (hcc : cleanE c now = c) (hp : PeerOk p) (hid : IdOk id) (hto : TimeOk now) (hr : ValM (ackM r id)) (hf : c.inn.findIdx? (hB p id) = none) (hl : c.inn.length < 16) :
  ValE (gotE c ⟨p, id, now + 128, false, Msg.none⟩) ∧ ValE (gotE c ⟨p, id, now + 128, true, ackM r id⟩) ∧
   answerR (gotE c ⟨p, id, now + 128, false, Msg.none⟩) p id r now = (gotE c ⟨p, id, now + 128, true, ackM r id⟩, ackM r id, 0) := by
 have hn0 := hto.1
 have hkey : ∀ y ∈ c.inn, ∀ a m, kHd y ≠ kHd ⟨p, id, now + 128, a, m⟩ := fun y hy a m he => hB_none hf hy (congrArg Prod.fst he) (congrArg Prod.snd he)
 have hv1 : ValE (gotE c ⟨p, id, now + 128, false, Msg.none⟩) := got_val hv ⟨hp, hid, (by show 0 ≤ now + 128; omega), (by intro h; cases h), (fun _ => rfl)⟩ hl (fun y hy => hkey y hy _ _)
 have hv2 : ValE (gotE c ⟨p, id, now + 128, true, ackM r id⟩) := got_val hv ⟨hp, hid, (by show 0 ≤ now + 128; omega), (fun _ => hr), (by intro h; cases h)⟩ hl (fun y hy => hkey y hy _ _)
 refine ⟨hv1, hv2, ?_⟩
 have e2 : cleanE (gotE c ⟨p, id, now + 128, false, Msg.none⟩) now = gotE c ⟨p, id, now + 128, false, Msg.none⟩ := clean_got hcc (by simp [liveH]; omega)
 rw [answerR, if_pos ⟨hv1, hto, hp, hr⟩, e2]
 have hfs : (gotE c ⟨p, id, now + 128, false, Msg.none⟩).inn.findIdx? (hB p id) = some c.inn.length := find_snoc hf (by unfold hB; simp)
 rw [hfs]
 have hg : hd (gotE c ⟨p, id, now + 128, false, Msg.none⟩).inn c.inn.length = ⟨p, id, now + 128, false, Msg.none⟩ := by simp [gotE]
 show (if (hd (gotE c ⟨p, id, now + 128, false, Msg.none⟩).inn c.inn.length).ans = true then _ else _) = _
 rw [hg, if_neg (by simp)]
 simp [gotE]
end Go.Proofs.YtoonnnifelnaiaaGreatDoor.By

namespace Go.Proofs.YtoonnnifelnaiaaGreatDoor.By
open Go.RowKit L A
set_option linter.unusedVariables false
set_option maxRecDepth 20000
set_option linter.unusedSimpArgs false
/-! ### The server -/
def SrvG (b : Ep) (R : Int → Msg) (D : List Int) : Prop := ∀ h ∈ b.inn, h.peer = 0 ∧ h.ans = true ∧ h.m = R h.id ∧ h.id ∈ D
theorem SrvG.clean {b : Ep} {R : Int → Msg} {D : List Int} (h : SrvG b R D) (now : Int) : SrvG (cleanE b now) R D := fun x hx => h x (List.mem_filter.1 hx).1
theorem gen_recv {b : Ep} {R : Int → Msg} {D : List Int} {net : List Pk} {now : Int} {q : Pk} {m : Msg} (hv : ValE b) (hB : SrvG b R D) (hk : Kept b D net now) (hnet : ∀ q ∈ net, q.at_ ≤ now) (hq : q ∈ net) (hm : q.m = m) (hmv : ValM m) (hty : m.ty = 0) (hc : m.code ≠ 0) (hto : TimeOk now) (hal : now < q.at_ + 128) :
    (recvR b 0 m now).2.2.2 = 0 ∧ ValE (recvR b 0 m now).1 ∧
      (((recvR b 0 m now).2.1 = 2 ∧ SrvG (recvR b 0 m now).1 R D ∧ Kept (recvR b 0 m now).1 D net now ∧ m.id ∈ D ∧ (recvR b 0 m now).2.2.1 = R m.id) ∨
       ((recvR b 0 m now).2.1 = 6 ∧ SrvG (recvR b 0 m now).1 R D ∧ Kept (recvR b 0 m now).1 D net now ∧ (recvR b 0 m now).2.2.1 = Msg.none) ∨
       ((recvR b 0 m now).2.1 = 1 ∧ m.id ∉ D ∧ ∀ r : Msg, ValM (ackM r m.id) → ∀ R' : Int → Msg, (∀ j ∈ D, R' j = R j) → R' m.id = ackM r m.id →
         (answerR (recvR b 0 m now).1 0 m.id r now).2.2 = 0 ∧ (answerR (recvR b 0 m now).1 0 m.id r now).2.1 = ackM r m.id ∧ ValE (answerR (recvR b 0 m now).1 0 m.id r now).1 ∧
         SrvG (answerR (recvR b 0 m now).1 0 m.id r now).1 R' (m.id :: D) ∧ Kept (answerR (recvR b 0 m now).1 0 m.id r now).1 (m.id :: D) net now)) := by
  have hp : PeerOk 0 := ⟨by omega, by omega⟩
  have hi : 0 ≤ m.id ∧ m.id ≤ 65535 := hmv.id
  have hcv := clean_val hv now
  have hcB := hB.clean now
  have hck := hk.clean
  have hcc := clean_clean b now
  have hno : (cleanE b now).inn.findIdx? (By.hB 0 m.id) = none → m.id ∉ D := by
    intro hf hd
    obtain ⟨x, hx, h1, h2⟩ := hck q hq (by rw [hm]; exact hd) hal
    exact hB_none hf hx (hcB x hx).1 (by rw [h1, hm])
  rcases recv_cases (p := 0) hv hp hto hmv (.inl hty) hc with ⟨j, hj, h1, h2, e⟩ | ⟨hf, e⟩ | ⟨hf, hl, e⟩
  · rw [e]
    have hx : hd (cleanE b now).inn j ∈ (cleanE b now).inn := getD_mem Hd.none hj
    have h3 := hcB _ hx
    rw [h2] at h3
    exact ⟨rfl, hcv, .inl ⟨rfl, hcB, hck, h3.2.2.2, h3.2.2.1⟩⟩
  · rw [e]
    exact ⟨rfl, hcv, .inr (.inl ⟨rfl, hcB, hck, rfl⟩)⟩
  · rw [e]
    have hnd := hno hf
    have hx0 : ValM (ackM Msg.none m.id) := (show ValM (ackM Msg.none 0) from of_decide_eq_true rfl).withId (id := m.id) hi
    refine ⟨rfl, (answer_new (r := Msg.none) hcv hcc hp hi hto hx0 hf hl).1, .inr (.inr ⟨rfl, hnd, fun r hr R' hR hRm => ?_⟩)⟩
    obtain ⟨-, hv2, e3⟩ := answer_new (r := r) hcv hcc hp hi hto hr hf hl
    rw [show answerR (gotE (cleanE b now) ⟨0, m.id, now + 128, false, Msg.none⟩) 0 m.id r now = _ from e3]
    refine ⟨rfl, rfl, hv2, ?_, ?_⟩
    · intro x hx
      have hx' : x ∈ (cleanE b now).inn ++ [(⟨0, m.id, now + 128, true, ackM r m.id⟩ : Hd)] := hx
      rcases List.mem_append.1 hx' with hx' | hx'
      · have := hcB x hx'
        exact ⟨this.1, this.2.1, by rw [hR _ this.2.2.2]; exact this.2.2.1, List.mem_cons_of_mem _ this.2.2.2⟩
      · obtain rfl := List.mem_singleton.1 hx'
        exact ⟨rfl, rfl, hRm.symm, List.mem_cons_self ..⟩
    · intro q' hq' hd' hl'
      rcases List.mem_cons.1 hd' with h1 | h1
      · refine ⟨⟨0, m.id, now + 128, true, ackM r m.id⟩, List.mem_append_right _ (List.mem_singleton.2 rfl), h1.symm, ?_⟩
        have h6 := hnet q' hq'
        show q'.at_ + 128 ≤ now + 128
        omega
      · obtain ⟨x, hx, h2, h3⟩ := hck q' hq' h1 hl'
        exact ⟨x, List.mem_append_left _ hx, h2, h3⟩
/-! ### A client that waits for one message at most -/
structure CliU (a : Ep) (F : Int → Msg) (num : Nat) (w : Bool) : Prop where
 v : ValE a
 nx : a.next = (num : Int) + (if w = true then 1 else 0)
 us : ∀ u ∈ a.used, u.id < (num : Int) + (if w = true then 1 else 0)
 ou : ∀ x ∈ a.out, w = true ∧ x.peer = 1 ∧ x.m = F num
theorem cliU_new (F : Int → Msg) : CliU ⟨0, [], [], []⟩ F 0 false := ⟨val_new ⟨by omega, by omega⟩, rfl, by simp, by simp⟩
theorem CliU.nil {a : Ep} {F : Int → Msg} {num : Nat} (h : CliU a F num false) : a.out = [] := List.eq_nil_iff_forall_not_mem.2 fun x hx => by have := (h.ou x hx).1; cases this
theorem up_send {a : Ep} {F : Int → Msg} {num : Nat} {m : Msg} {now : Int} (h : CliU a F num false) (hn : num < 60000) (hto : TimeOk now) (hm : ValM m) (hty : m.ty = 0) (hF : { m with id := (num : Int) } = F num) :
  (sendR a 1 m now).2.2 = 16 ∨ ((sendR a 1 m now).2.2 = 0 ∧ (sendR a 1 m now).2.1 = F num ∧ CliU (sendR a 1 m now).1 F num true) := by
 have hp : PeerOk 1 := ⟨by omega, by omega⟩
 rw [sendR, if_pos ⟨h.v, hto, hp, hm, .inl hty⟩]
 have hcv := clean_val h.v now
 have hcu : ∀ u ∈ (cleanE a now).used, u.id < (num : Int) := fun u hu => by
  have := h.us u (List.mem_filter.1 hu).1
  simpa using this
 have hco : ∀ w ∈ (cleanE a now).out, w.m.id < (num : Int) := fun w hw => by
  have hw' : w ∈ a.out := hw
  rw [h.nil] at hw'; cases hw'
 by_cases hf : SendFull (cleanE a now) m
 ·rw [if_pos hf]; exact .inl rfl
 ·rw [if_neg hf]
  right
  have hsv := sent_val hcv hp hto hm hf
  have hnx : a.next = (num : Int) := by have := h.nx; simpa using this
  have hcn : (cleanE a now).next = (num : Int) := hnx
  have hfr := free_next (p := 1) (n := num) (by omega) hcu hco
  rw [hcn, hfr] at hsv
  rw [hnx, hfr]
  refine ⟨rfl, hF, hsv, ?_, ?_, ?_⟩
  ·show ((num : Int) + 1) % 65536 = _
   simp only [if_true]; omega
  ·intro u hu
   have hu' : u ∈ (cleanE a now).used ++ [(⟨1, (num : Int), now + 128⟩ : Us)] := hu
   simp only [if_true]
   rcases List.mem_append.1 hu' with hu' | hu'
   ·have := hcu u hu'; omega
   ·obtain rfl := List.mem_singleton.1 hu'
    show (num : Int) < _; omega
  ·intro w hw
   rw [sentE_con hty] at hw
   rcases List.mem_append.1 hw with hw | hw
   ·have hw' : w ∈ a.out := hw
    rw [h.nil] at hw'; cases hw'
   ·obtain rfl := List.mem_singleton.1 hw
    exact ⟨rfl, rfl, hF⟩
theorem CliU.clean {a : Ep} {F : Int → Msg} {num : Nat} {w : Bool} (h : CliU a F num w) (now : Int) : CliU (cleanE a now) F num w :=
 ⟨clean_val h.v now, h.nx, fun u hu => h.us u (List.mem_filter.1 hu).1, h.ou⟩
theorem CliU.one {a : Ep} {F : Int → Msg} {num : Nat} {w : Bool} (h : CliU a F num w) : a.out.length ≤ 1 := by
 have h6 := h.v.2.2.2.2.2.1
 have ho := h.ou
 generalize a.out = l at *
 match l with
 | [] => simp
 | [x] => simp
 | x :: y :: l =>
  exfalso
  have hx := ho x (by simp)
  have hy := ho y (by simp)
  rw [List.map_cons, List.map_cons, List.nodup_cons] at h6
  apply h6.1
  have : kWt x = kWt y := by
   show (x.peer, x.m.id) = (y.peer, y.m.id)
   rw [hx.2.1, hy.2.1, hx.2.2, hy.2.2]
  rw [this]; simp
theorem up_ack {a : Ep} {F : Int → Msg} {num : Nat} {w : Bool} {m : Msg} {now : Int} (h : CliU a F num w) (hFi : (F num).id = (num : Int)) (hto : TimeOk now) (hm : ValM m) (hty : m.ty = 2) :
  (recvR a 1 m now).2.2.2 = 0 ∧ (((recvR a 1 m now).2.1 = 3 ∧ w = true ∧ m.id = (num : Int) ∧ CliU (recvR a 1 m now).1 F (num + 1) false) ∨ ((recvR a 1 m now).2.1 = 5 ∧ CliU (recvR a 1 m now).1 F num w)) := by
 have hp : PeerOk 1 := ⟨by omega, by omega⟩
 have e0 : recvR a 1 m now = endR (cleanE a now) 1 m := by rw [recvR, if_pos ⟨h.v, hto, hp, hm⟩, if_pos (.inl hty)]
 have hc := h.clean now
 rw [e0]
 generalize cleanE a now = c at *
 unfold endR
 cases hf : c.out.findIdx? (wB 1 m.id) with
 | none => exact ⟨rfl, .inr ⟨rfl, hc⟩⟩
 | some i =>
  rw [List.findIdx?_eq_some_iff_getElem] at hf
  obtain ⟨hi, hp', -⟩ := hf
  have hx := hc.ou c.out[i] (List.getElem_mem hi)
  unfold wB at hp'
  rw [Bool.and_eq_true, beq_iff_eq, beq_iff_eq] at hp'
  have h1 := hc.one
  have he : c.out.eraseIdx i = [] := by
   apply List.eq_nil_of_length_eq_zero
   rw [List.length_eraseIdx_of_lt hi]; omega
  obtain ⟨h1, h2, h3, h4, h5, h6, h7, h8, h9⟩ := hc.v
  have hw := hx.1
  subst hw
  have hid : m.id = (num : Int) := by rw [← hp'.2, hx.2.2, hFi]
  have hnx := hc.nx
  have hus := hc.us
  simp only [if_true] at hnx hus
  dsimp only
  rw [he]
  refine ⟨rfl, .inl ⟨if_neg (by omega), rfl, hid, ⟨h1, by simp, h3, h4, by simp, by simp, h7, h8, h9⟩, ?_, ?_, by simp⟩⟩
  ·show c.next = _
   rw [hnx]; simp
  ·intro u hu
   have := hus u hu
   simp; exact this
theorem up_none {a : Ep} {F : Int → Msg} {num : Nat} {w : Bool} {now : Int} (h : CliU a F num w) (hto : TimeOk now) :
  (recvR a 1 Msg.none now).2.2.2 = 0 ∧ (recvR a 1 Msg.none now).2.1 = 5 ∧ CliU (recvR a 1 Msg.none now).1 F num w := by
 have hp : PeerOk 1 := ⟨by omega, by omega⟩
 have e0 : recvR a 1 Msg.none now = (cleanE a now, 5, ⟨3, 0, 0, [], [], []⟩, 0) := by
  rw [recvR, if_pos ⟨h.v, hto, hp, (of_decide_eq_true rfl : ValM Msg.none)⟩, if_neg (by show ¬((0 : Int) = 2 ∨ (0 : Int) = 3); omega), if_pos (show Msg.none.code = 0 from rfl)]
  rfl
 rw [e0]
 exact ⟨rfl, rfl, h.clean now⟩
theorem up_tick {a : Ep} {F : Int → Msg} {num : Nat} {w : Bool} {now : Int} (h : CliU a F num w) (hto : TimeOk now) :
  (tickR a now).2.2.2 = 0 ∧ CliU (tickR a now).1 F num w ∧ (tickR a now).2.1.length ≤ 16 ∧ ∀ x ∈ (tickR a now).2.1, w = true ∧ x.m = F num := by
 have ht := tick_val h.v hto
 refine ⟨ht.1, ⟨ht.2.1, ht.2.2.1.trans h.nx, ?_, ?_⟩, ?_, ?_⟩
 ·rw [ht.2.2.2]
  exact fun u hu => h.us u (List.mem_filter.1 hu).1
 ·rw [tickR, if_pos ⟨h.v, hto⟩]
  intro x hx
  obtain ⟨y, hy, hs⟩ := List.mem_filterMap.1 hx
  have e := stayF_key hs
  have h1 := h.ou y hy
  exact ⟨h1.1, e.1.trans h1.2.1, e.2.trans h1.2.2⟩
 ·rw [tickR, if_pos ⟨h.v, hto⟩]
  exact Nat.le_trans (List.length_filterMap_le _ _) h.v.2.1
 ·rw [tickR, if_pos ⟨h.v, hto⟩]
  intro x hx
  obtain ⟨y, hy, hm⟩ := again_mem hx
  have h1 := h.ou y hy
  exact ⟨h1.1, hm.trans h1.2.2⟩
end Go.Proofs.YtoonnnifelnaiaaGreatDoor.By

namespace Go.Proofs.YtoonnnifelnaiaaGreatDoor.By
open Go.RowKit L A
set_option linter.unusedVariables false
set_option maxRecDepth 20000
/-- Which number is newer (the same as the reference's of layer 19). -/
def newerT (a b c d : Int) : Bool := (decide (a < c) && decide (c - a < 8388608) || decide (c < a) && decide (8388608 < a - c)) || decide (128 < d - b)
/-- The number of state s, where the first one is start. -/
def seqOf (st : Int) (s : Nat) : Int := (st + (s : Int)) % 16777216
/-! ### Numbers as bytes -/
def fromU (n : Int) : List UInt8 := (([16777216, 65536, 256, 1] : List Int).filter fun p => decide (0 < n / p)).map fun p => u8 (n / p)
def uintL (l : List UInt8) : Int := l.foldl (fun n c => n * 256 + (c.toNat : Int)) 0
theorem u8_nat (x : Int) : ((u8 x).toNat : Int) = x % 256 := by
 simp only [u8, UInt8.toNat_ofNat']
 omega
theorem uint_from {n : Int} (h0 : 0 ≤ n) (h1 : n < 16777216) : uintL (fromU n) = n ∧ (fromU n).length ≤ 3 := by
 have e1 : decide (0 < n / 16777216) = false := decide_eq_false (by omega)
 by_cases g1 : n < 256
 ·have e2 : decide (0 < n / 65536) = false := decide_eq_false (by omega)
  have e3 : decide (0 < n / 256) = false := decide_eq_false (by omega)
  by_cases g0 : n = 0
  ·subst g0; exact ⟨rfl, by decide⟩
  ·have e4 : decide (0 < n / 1) = true := decide_eq_true (by omega)
   have e : fromU n = [u8 (n / 1)] := by unfold fromU; simp only [List.filter_cons, e1, e2, e3, e4, List.filter_nil, List.map_cons, List.map_nil, if_true, Bool.false_eq_true, if_false]
   rw [e]
   exact ⟨by simp only [uintL, List.foldl_cons, List.foldl_nil, u8_nat]; omega, by simp⟩
 ·have e3 : decide (0 < n / 256) = true := decide_eq_true (by omega)
  have e4 : decide (0 < n / 1) = true := decide_eq_true (by omega)
  by_cases g2 : n < 65536
  ·have e2 : decide (0 < n / 65536) = false := decide_eq_false (by omega)
   have e : fromU n = [u8 (n / 256), u8 (n / 1)] := by unfold fromU; simp only [List.filter_cons, e1, e2, e3, e4, List.filter_nil, List.map_cons, List.map_nil, if_true, Bool.false_eq_true, if_false]
   rw [e]
   exact ⟨by simp only [uintL, List.foldl_cons, List.foldl_nil, u8_nat]; omega, by simp⟩
  ·have e2 : decide (0 < n / 65536) = true := decide_eq_true (by omega)
   have e : fromU n = [u8 (n / 65536), u8 (n / 256), u8 (n / 1)] := by unfold fromU; simp only [List.filter_cons, e1, e2, e3, e4, List.filter_nil, List.map_cons, List.map_nil, if_true, Bool.false_eq_true, if_false]
   rw [e]
   exact ⟨by simp only [uintL, List.foldl_cons, List.foldl_nil, u8_nat]; omega, by simp⟩
end Go.Proofs.YtoonnnifelnaiaaGreatDoor.By

namespace Go.Proofs.YtoonnnifelnaiaaGreatDoor.By
open Go.RowKit L A
set_option linter.unusedVariables false
set_option maxRecDepth 20000
set_option linter.unusedSimpArgs false
theorem val_small {m : Msg} (h : OkM m) (ho : (rawO 0 m.opts).length ≤ 2000) (hp : m.pay.length ≤ 1000) : ValM m := by
 refine ⟨h, ?_⟩
 have h2 := h.2.1.2.2.1
 have h5 : (if m.pay = [] then [] else (255 : UInt8) :: m.pay).length ≤ m.pay.length + 1 := by split <;> simp
 simp only [raw, headM, List.length_append, List.length_cons, List.length_nil] at h5 ⊢
 omega
theorem one_opt {t c i num : Int} {tok v pay : List UInt8} (ht : 0 ≤ t ∧ t ≤ 2) (hc : 0 < c ∧ c ≤ 255 ∧ ClsOk c) (hi : 0 ≤ i ∧ i ≤ 65535) (hk : tok.length ≤ 8) (hn : 0 ≤ num ∧ num ≤ 65535) (hv : v.length ≤ 100) (hp : pay.length ≤ 1000) : ValM ⟨t, c, i, tok, [⟨num, v⟩], pay⟩ := by
 refine val_small ⟨⟨ht.1, by show t ≤ 3; omega, by show 0 ≤ c; omega, hc.2.1, hc.2.2⟩, ⟨hi.1, hi.2, by show (tok.length : Int) ≤ 8; omega, by show ((1 : Nat) : Int) ≤ 32; omega⟩, ⟨hn.1, hn.2, by show (v.length : Int) ≤ 1034; omega, trivial⟩, fun h => ?_, fun h => ?_, by show (pay.length : Int) ≤ 4096; omega⟩ ?_ hp
 ·have : c = 0 := h
  omega
 ·have : t = 3 := h
  omega
 ·have := hdr_len (num - 0) v.length
  simp only [rawO, List.length_append, List.length_nil]; omega
/-! ### Blocks -/
def cutB (body : List UInt8) (n i : Nat) : List UInt8 := (body.drop (i * n)).take n
def moreB (body : List UInt8) (n i : Nat) : Bool := decide (i * n + n < body.length)
def valB (sz : Int) (i : Int) (more : Bool) : Int := i * 16 + sz + (if more = true then 8 else 0)
def hasB (body : List UInt8) (n i : Nat) : Prop := i = 0 ∨ i * n < body.length
theorem cutB_len (body : List UInt8) (n i : Nat) : (cutB body n i).length = min n (body.length - i * n) := by simp [cutB]
theorem cut_more {body : List UInt8} {n i : Nat} (h : moreB body n i = true) : (cutB body n i).length = n := by
 have := of_decide_eq_true h
 rw [cutB_len]; omega
theorem cut_next (body : List UInt8) (n i : Nat) : body.take (i * n) ++ cutB body n i = body.take ((i + 1) * n) := by
 rw [cutB, Nat.add_mul, Nat.one_mul, List.take_add]
theorem cut_all {body : List UInt8} {n i : Nat} (h : moreB body n i = false) : body.take ((i + 1) * n) = body := by
 have := of_decide_eq_false h
 rw [Nat.add_mul]
 exact List.take_of_length_le (by omega)
theorem has_more {body : List UInt8} {n i : Nat} (h : hasB body n (i + 1)) : moreB body n i = true := by
 rcases h with h | h
 ·omega
 ·rw [Nat.add_mul] at h
  exact decide_eq_true (by omega)
abbrev upF (body : List UInt8) (sz : Int) (n : Nat) (i : Int) : Msg := ⟨0, 3, i, [], [⟨27, fromU (valB sz i (moreB body n i.toNat))⟩], cutB body n i.toNat⟩
abbrev upR (body : List UInt8) (sz : Int) (n : Nat) (i : Int) : Msg := ⟨2, 68, i, [], [⟨27, fromU (valB sz i (moreB body n i.toNat))⟩], []⟩
theorem fromU_len (z : Int) : (fromU z).length ≤ 4 := by
 unfold fromU
 rw [List.length_map]
 exact Nat.le_trans (List.length_filter_le _ _) (by decide)
theorem upF_val {body : List UInt8} {sz : Int} {n : Nat} {i : Int} (hn : n ≤ 64) (hi : 0 ≤ i ∧ i ≤ 65535) : ValM (upF body sz n i) := by
 have h1 := fromU_len (valB sz i (moreB body n i.toNat))
 have h2 := cutB_len body n i.toNat
 exact one_opt ⟨by omega, by omega⟩ ⟨by omega, by omega, by decide⟩ hi (by simp) ⟨by omega, by omega⟩ (by omega) (by omega)
theorem upR_val {body : List UInt8} {sz : Int} {n : Nat} {i : Int} (hi : 0 ≤ i ∧ i ≤ 65535) : ValM (upR body sz n i) := by
 have h1 := fromU_len (valB sz i (moreB body n i.toNat))
 exact one_opt ⟨by omega, by omega⟩ ⟨by omega, by omega, by decide⟩ hi (by simp) ⟨by omega, by omega⟩ (by omega) (by simp)
/-- The block is read back from its number. -/
theorem valB_back {sz i : Int} {more : Bool} (hs : 0 ≤ sz ∧ sz ≤ 2) (hi : 0 ≤ i ∧ i ≤ 1000) : 0 ≤ valB sz i more ∧ valB sz i more < 16777216 ∧ valB sz i more % 8 = sz ∧ valB sz i more / 16 = i ∧ (valB sz i more % 16 / 8 = if more = true then 1 else 0) := by
 unfold valB
 cases more <;> simp <;> omega
/-! ### What the server keeps -/
structure Pt where
 peer : Int
 key : List UInt8
 data : List UInt8
 till : Int
 deriving DecidableEq
def Pt.none : Pt := ⟨0, [], [], 0⟩
abbrev cPt (q : Pt) : List AV := [.val (.int .i64 q.peer), roB q.key, roB q.data, .val (.int .i64 q.till)]
def cellsPt (q : Pt) : List AV := cPt q
theorem cellsPt_len (q : Pt) : (cellsPt q).length = 4 := rfl
def ptsA (l : List Pt) : List AV := l.flatMap cellsPt
abbrev ptA (l : List Pt) (k : Nat) : Pt := l.getD k Pt.none
@[simp] theorem ptsA_len (l : List Pt) : (ptsA l).length = l.length * 4 := flat_len cellsPt_len l
theorem ptsA_snoc (a : List Pt) (w : Pt) : ptsA (a ++ [w]) = ptsA a ++ cPt w := flat_snoc a w
theorem getPt {l : List Pt} {k : Nat} (h : k < l.length) {j : Nat} (hj : j = k) : ((ptsA l).drop (j * 4)).take 4 = cPt (ptA l k) := flat_at cellsPt_len Pt.none h hj
def roPt (l : List Pt) : AV := .ro false l.length (ptsA l)
theorem roPt_cells (l : List Pt) : (roPt l).cells = [roPt l] := rfl
def ptB (peer : Int) (key : List UInt8) (p : Pt) : Bool := p.peer == peer && p.key == key
abbrev OkPt (p : Pt) : Prop := 0 ≤ p.peer ∧ p.peer ≤ 65536 ∧ (p.key.length : Int) ≤ 4096 ∧ (p.data.length : Int) ≤ 4096 ∧ 0 ≤ p.till
abbrev POkTo (l : List Pt) (k : Nat) : Prop := ∀ i, i < k → OkPt (ptA l i) ∧ (l.take i).findIdx? (ptB (ptA l i).peer (ptA l i).key) = none
def ValP (l : List Pt) : Prop := l.length ≤ 4 ∧ POkTo l l.length
theorem valP_nil : ValP [] := ⟨by simp, fun i h => by cases h⟩
theorem valP_one {p : Pt} (h : OkPt p) : ValP [p] := ⟨by simp, fun i hi => by
 obtain rfl : i = 0 := by simpa using hi
 exact ⟨h, rfl⟩⟩
structure SrvP (body : List UInt8) (n k : Nat) (parts : List Pt) (last : Int) (done : Int) : Prop where
 z : k = 0 → parts = [] ∧ done = 0
 m : ∀ j, k = j + 1 → moreB body n j = true → parts = [⟨0, [], body.take (k * n), last + 128⟩] ∧ done = 0
 f : ∀ j, k = j + 1 → moreB body n j = false → parts = [] ∧ done = 1
theorem srvP_new (body : List UInt8) (n : Nat) : SrvP body n 0 [] 0 0 := ⟨fun _ => ⟨rfl, rfl⟩, fun j h => by omega, fun j h => by omega⟩
theorem SrvP.done_le {body : List UInt8} {n k : Nat} {parts : List Pt} {last done : Int} (h : SrvP body n k parts last done) : done = 0 ∨ done = 1 := by
 cases k with
 | zero => exact .inl (h.z rfl).2
 | succ j =>
  cases hm : moreB body n j with
  | true => exact .inl (h.m j rfl hm).2
  | false => exact .inr (h.f j rfl hm).2
theorem SrvP.val {body : List UInt8} {n k : Nat} {parts : List Pt} {last done : Int} (h : SrvP body n k parts last done) (hb : body.length ≤ 300) (hl : 0 ≤ last) : ValP parts ∧ parts.length ≤ 1 := by
 cases k with
 | zero => rw [(h.z rfl).1]; exact ⟨valP_nil, by simp⟩
 | succ j =>
  cases hm : moreB body n j with
  | true =>
   rw [(h.m j rfl hm).1]
   refine ⟨valP_one ⟨by show (0 : Int) ≤ 0; omega, by show (0 : Int) ≤ 65536; omega, by simp, ?_, by show 0 ≤ last + 128; omega⟩, by simp⟩
   show ((body.take ((j + 1) * n)).length : Int) ≤ 4096
   rw [List.length_take]; omega
  | false => rw [(h.f j rfl hm).1]; exact ⟨valP_nil, by simp⟩
/-- The block that comes next. -/
theorem SrvP.next {body : List UInt8} {n k : Nat} {parts : List Pt} {last done : Int} (h : SrvP body n k parts last done) (hk : hasB body n k) : done = 0 ∧ ((k = 0 ∧ parts = []) ∨ (0 < k ∧ parts = [⟨0, [], body.take (k * n), last + 128⟩])) := by
 cases k with
 | zero => exact ⟨(h.z rfl).2, .inl ⟨rfl, (h.z rfl).1⟩⟩
 | succ j => have := h.m j rfl (has_more hk); exact ⟨this.2, .inr ⟨by omega, this.1⟩⟩
theorem SrvP.step {body : List UInt8} {n k : Nat} {now : Int} (hm : moreB body n k = true) : SrvP body n (k + 1) [⟨0, [], body.take ((k + 1) * n), now + 128⟩] now 0 := by
 refine ⟨fun h => by omega, fun j h _ => ⟨rfl, rfl⟩, fun j h hf => ?_⟩
 obtain rfl : k = j := by omega
 rw [hm] at hf; cases hf
theorem SrvP.last {body : List UInt8} {n k : Nat} {now : Int} (hm : moreB body n k = false) : SrvP body n (k + 1) [] now 1 := by
 refine ⟨fun h => by omega, fun j h hf => ?_, fun j h _ => ⟨rfl, rfl⟩⟩
 obtain rfl : k = j := by omega
 rw [hm] at hf; cases hf
/-! ### The net -/
def NetF (F : Int → Msg) (net : List Pk) (n : Int) (now : Int) : Prop := ∀ q ∈ net, ∃ i : Int, 0 ≤ i ∧ i < n ∧ q.m = F i ∧ 0 ≤ q.at_ ∧ q.at_ ≤ now
theorem NetF.later {F : Int → Msg} {net : List Pk} {n n' : Int} {now now' : Int} (h : NetF F net n now) (hn : n ≤ n') (hnow : now ≤ now') : NetF F net n' now' := fun q hq => by
 obtain ⟨i, h2, h3, h4, h5, h6⟩ := h q hq
 exact ⟨i, h2, by omega, h4, h5, by omega⟩
theorem NetF.snoc {F : Int → Msg} {net : List Pk} {n : Int} {now : Int} (h : NetF F net n now) {q : Pk} {i : Int} (hi : 0 ≤ i ∧ i < n) (hm : q.m = F i) (ha : 0 ≤ q.at_ ∧ q.at_ ≤ now) : NetF F (net ++ [q]) n now := fun x hx => by
 rcases List.mem_append.1 hx with hx | hx
 ·exact h x hx
 ·obtain rfl := List.mem_singleton.1 hx
  exact ⟨i, hi.1, hi.2, hm, ha.1, ha.2⟩
def BackU (R : Int → Msg) (back : List Pk) (k : Int) : Prop := ∀ q ∈ back, q.m = Msg.none ∨ ∃ i : Int, 0 ≤ i ∧ i < k ∧ q.m = R i
theorem BackU.later {R : Int → Msg} {back : List Pk} {k k' : Int} (h : BackU R back k) (hk : k ≤ k') : BackU R back k' := fun q hq => by
 rcases h q hq with h | ⟨i, h1, h2, h3⟩
 ·exact .inl h
 ·exact .inr ⟨i, h1, by omega, h3⟩
theorem BackU.snoc {R : Int → Msg} {back : List Pk} {k : Int} (h : BackU R back k) {q : Pk} (hq : q.m = Msg.none ∨ ∃ i : Int, 0 ≤ i ∧ i < k ∧ q.m = R i) : BackU R (back ++ [q]) k := fun x hx => by
 rcases List.mem_append.1 hx with hx | hx
 ·exact h x hx
 ·obtain rfl := List.mem_singleton.1 hx
  exact hq
def upD (k : Nat) : List Int := (List.range k).map fun i : Nat => (i : Int)
theorem upD_mem {k : Nat} {i : Int} : i ∈ upD k ↔ 0 ≤ i ∧ i < (k : Int) := by
 unfold upD
 rw [List.mem_map]
 constructor
 ·rintro ⟨j, hj, rfl⟩
  have := List.mem_range.1 hj
  omega
 ·intro h
  exact ⟨i.toNat, List.mem_range.2 (by omega), by omega⟩
theorem SrvG.mem {b : Ep} {R : Int → Msg} {D D' : List Int} (h : SrvG b R D) (hD : ∀ i, i ∈ D → i ∈ D') : SrvG b R D' := fun x hx => by
 have := h x hx
 exact ⟨this.1, this.2.1, this.2.2.1, hD _ this.2.2.2⟩
theorem Kept.mem {b : Ep} {D D' : List Int} {net : List Pk} {now : Int} (h : Kept b D net now) (hD : ∀ i, i ∈ D' → i ∈ D) : Kept b D' net now := fun q hq hd hl => h q hq (hD _ hd) hl
theorem upD_cons {k : Nat} {i : Int} (hi : i = (k : Int)) (j : Int) : j ∈ i :: upD k ↔ j ∈ upD (k + 1) := by
 rw [List.mem_cons, upD_mem, upD_mem]; omega
end Go.Proofs.YtoonnnifelnaiaaGreatDoor.By

namespace Go.Proofs.YtoonnnifelnaiaaGreatDoor.A
open Go.RowKit L
set_option linter.unusedVariables false
set_option maxRecDepth 20000
set_option linter.unusedSimpArgs false
/-- What is known of the block of a package variable. -/
def GK (g : Nat) (vs : List Value) (W : World) : Prop := ∃ cs T, W.heap[g]? = some (.cells cs T (0, 0)) ∧ cs.toList = vs
theorem GK.lt {g : Nat} {vs : List Value} {W : World} (h : GK g vs W) : g < W.heap.size := by
 obtain ⟨cs, T, h, _⟩ := h
 exact (Array.getElem?_eq_some_iff.1 h).1
theorem GK.mods {g : Nat} {vs : List Value} {S : Nat → Prop} {W W' : World} (h : GK g vs W) (hm : Mods S W W') (hS : ¬ S g) : GK g vs W' := by
 have hl := h.lt
 obtain ⟨cs, T, h1, h2⟩ := h
 exact ⟨cs, T, by rw [hm.block g hl hS]; exact h1, h2⟩
/-- What a function does where the variable is known. -/
def SpK (K : World → Prop) (P : Program) (f : FuncId) (args : List AV) (H0 : List HE) (Post : AV → List HE → Prop) : Prop :=
 ∀ (W : World) (R : Nat → Prop) (us : List Value), K W → (∀ b, R b → b < W.heap.size) → (∀ e ∈ H0, e.ok R W ∧ ∀ b, e.foot b → ¬ R b) → H0.Pairwise Disj → RelL R W args us →
  Calls P f us.toArray W fun e W' => ∃ u r H' R', e = .returned u ∧ Post r H' ∧ RelS ⟨W, footOf H0, R, 0⟩ R' H' W' ∧ RelV R' W' r u
theorem SpK.of {K : World → Prop} {P : Program} {f : FuncId} {args : List AV} {H0 : List HE} {Post : AV → List HE → Prop} (h : Sp P f args H0 Post) : SpK K P f args H0 Post := fun W R us _ h1 h2 h3 h4 => h W R us h1 h2 h3 h4
theorem SpK.coe {K : World → Prop} {P : Program} {f : FuncId} {args args' : List AV} {H0 : List HE} {Post : AV → List HE → Prop} (h : SpK K P f args' H0 Post) (hc : CoeL args args') : SpK K P f args H0 Post := fun W R us hK h1 h2 h3 h4 => h W R us hK h1 h2 h3 (hc R W us h4)
theorem notFoot_nil {g : Nat} : ¬ footOf [] g := fun ⟨e, he, _⟩ => by cases he
theorem notFoot_blk {g B T room : Nat} {xs : List AV} (h : B ≠ g) : ¬ footOf [.blk B T room xs] g := fun ⟨e, he, hb⟩ => by
 obtain rfl := List.mem_singleton.1 he
 exact h hb.symm
theorem SpK.enter {K : World → Prop} {P : Program} {f : FuncId} {args : List AV} {H0 : List HE} {Post : AV → List HE → Prop} {fn : Func} {c : Code} (hf : P.funcs[f]? = some fn) (hb : fn.body = some c) (n : Nat) (hn : fn.ntmps = n) (hl : Nat.ble args.length n = true)
  (h : ∀ w0 R0, K w0 → AW ⟨w0, footOf H0, R0, n⟩ P (FnQ ⟨w0, footOf H0, R0, n⟩ P fn Post) c (envOf 0 args) H0) : SpK K P f args H0 Post := fun W R us hK h1 h2 h3 h4 => by
 refine calls_of_wp hf hb (h W R hK R _ W ⟨Mods.refl _ _, h1, fun _ h => h, fun _ h => .inl h, fun e he => (h2 e he).1, fun e he b hb => ⟨.inr ⟨e, he, hb⟩, (h2 e he).2 b hb⟩, h3⟩ ⟨rfl, ?_, ?_⟩)
 ·have := Nat.le_of_ble_eq_true hl
  have h5 := h4.1
  simp [hn]; omega
 ·intro t v ht
  have key : ∀ (args : List AV) (k : Nat), look (envOf k args) t = some v → k ≤ t ∧ args[t - k]? = some v := by
   intro args
   induction args with
   | nil => intro k h; cases h
   | cons x r ih =>
    intro k h
    rw [envOf] at h
    unfold look at h
    cases hb : Nat.beq k t with
    | true =>
     rw [hb] at h
     have := Nat.eq_of_beq_eq_true hb
     subst this
     simp at h ⊢; exact h
    | false =>
     rw [hb] at h
     obtain ⟨h5, h6⟩ := ih (k + 1) h
     have : k ≠ t := fun e => by subst e; simp at hb
     refine ⟨by omega, ?_⟩
     rw [show t - k = (t - (k + 1)) + 1 by omega]
     simpa using h6
  obtain ⟨_, h5⟩ := key args 0 ht
  obtain ⟨u, h6, h7⟩ := h4.get (j := t) (by simpa using h5)
  have ht' : t < us.length := (List.getElem?_eq_some_iff.1 h6).1
  have hu : us[t] = u := (List.getElem?_eq_some_iff.1 h6).2
  have : Act.eval { tmps := us.toArray ++ Array.replicate (fn.ntmps - us.toArray.size) undef, defers := [] } (.tmp t) = u := by
   simp only [Act.eval, Array.getD]
   rw [dif_pos (by simp; omega)]
   simp [Array.getElem_append, ht', hu]
  rw [this]; exact h7
section
variable {Γ : Cx} {P : Program} {Q : Exit → Act → World → Prop} {E : Env} {H : List HE} {N : Nat} {o : Oper} {ops : Array Oper} {rest : List Oper}
/-- A call of a function whose contract needs the variable; it may write blocks of the caller's. -/
theorem AO.callMK {f : FuncId} {d : Nat} {g : Nat} {vs : List Value} {xs : List Operand} {ats : Array TypeId} {args : List AV} {H0 H1 : List HE} {Post : AV → List HE → Prop} {fn : Func} (hK : GK g vs Γ.w0) (hS : ¬ Γ.S g) (ho : o.op = .call { callee := .value (.func f), args := xs.toArray, argTypes := ats }) (hw : wantedIs ops E o = some true) (hfn : P.funcs[f]? = some fn) (hn : (fn.name == "runtime.NumGoroutine") = false) (hb : fn.body.isNone = false)
  (hx : evs E xs = some args) (hd : o.dst = some d) (hN : d < Γ.N) (hH : H.Perm (H0 ++ H1)) (h : SpK (GK g vs) P f args H0 Post) (next : ∀ r H', Post r H' → AO Γ P ops Q rest ((d, r) :: E) (H' ++ H1)) : AO Γ P ops Q (o :: rest) E H := fun R a W hs ha => by
 have hs0 := hs.perm hH.symm
 have hc := h W R (xs.map a.eval) (hK.mods hs.mods hS) hs.rlt (fun e he => ⟨hs0.ok e (List.mem_append_left _ he), fun b hb => (hs0.own e (List.mem_append_left _ he) b hb).2⟩) (List.pairwise_append.1 hs0.disj).1 (ha.evs hx)
 unfold wpList
 rw [if_pos (wanted_is ha hw)]
 refine .inl ?_
 unfold Oper.wp
 rw [run_callF ho hfn hn hb, List.map_toArray]
 refine Calls.mono hc ?_
 rintro e W' ⟨u, r, H', R', rfl, hP, hs', hv⟩
 show wpList P ops Q rest (a.put o.dst u) W'
 rw [hd]
 have hS0 : ∀ b, footOf H0 b → Γ.w0.heap.size ≤ b ∨ Γ.S b := fun b ⟨e, he, hb⟩ => (hs0.own e (List.mem_append_left _ he) b hb).1
 have hnR : ∀ b, footOf H0 b → ¬ R b := fun b ⟨e, he, hb⟩ => (hs0.own e (List.mem_append_left _ he) b hb).2
 have h1lt : ∀ e ∈ H1, ∀ b, e.foot b → b < W.heap.size := fun e he b hb => HE.ok_lt (hs0.ok e (List.mem_append_right _ he)) hb
 have h10 : ∀ e ∈ H1, ∀ b, e.foot b → ¬ footOf H0 b := fun e he b hb ⟨f, hf, hb'⟩ => (List.pairwise_append.1 hs0.disj).2.2 f hf e he b hb' hb
 have hR : ∀ b, R b → W'.heap[b]? = W.heap[b]? := fun b hb => hs'.mods.block b (hs.rlt b hb) fun hh => hnR b hh hb
 refine next r H' hP R' _ W' ⟨Mods.then hs.mods hs'.mods fun b hb hh => ?_, hs'.rlt, fun b hb => hs'.rsub b (hs.rsub b hb), fun b hb => ?_, ?_, ?_, ?_⟩ ((ha.mono hs'.rsub hR).put hN hv)
 ·rcases hS0 b hh with h | h
  ·omega
  ·exact h
 ·rcases hs'.rnew b hb with h | h | h
  ·exact hs.rnew b h
  ·exact .inr (.inl (Nat.le_trans hs.mods.size h))
  ·exact .inr (hS0 b h)
 ·intro e he
  rcases List.mem_append.1 he with he | he
  ·exact hs'.ok e he
  ·exact HE.ok_mono hs'.rsub hR hs'.mods.size (fun b hb => hs'.mods.block b (h1lt e he b hb) (h10 e he b hb)) (hs0.ok e (List.mem_append_right _ he))
 ·intro e he b hb
  rcases List.mem_append.1 he with he | he
  ·obtain ⟨h2, h3⟩ := hs'.own e he b hb
   refine ⟨?_, h3⟩
   rcases h2 with h2 | h2
   ·exact .inl (Nat.le_trans hs.mods.size h2)
   ·exact hS0 b h2
  ·refine ⟨(hs0.own e (List.mem_append_right _ he) b hb).1, fun hr => ?_⟩
   rcases hs'.rnew b hr with h | h | h
   ·exact (hs0.own e (List.mem_append_right _ he) b hb).2 h
   ·have h5 := h1lt e he b hb
    exact absurd h (by simpa using h5)
   ·exact h10 e he b hb h
 ·rw [List.pairwise_append]
  refine ⟨hs'.disj, (List.pairwise_append.1 hs0.disj).2.1, fun e he f hf b hb hb' => ?_⟩
  rcases (hs'.own e he b hb).1 with h | h
  ·have h5 := h1lt f hf b hb'
   exact absurd h (by simpa using h5)
  ·exact h10 f hf b hb' h
theorem AO.callK {f : FuncId} {d : Nat} {g : Nat} {vs : List Value} {xs : List Operand} {ats : Array TypeId} {args : List AV} {v : AV} {fn : Func} (hK : GK g vs Γ.w0) (hS : ¬ Γ.S g) (ho : o.op = .call { callee := .value (.func f), args := xs.toArray, argTypes := ats }) (hw : wantedIs ops E o = some true) (hfn : P.funcs[f]? = some fn) (hn : (fn.name == "runtime.NumGoroutine") = false) (hb : fn.body.isNone = false)
  (hx : evs E xs = some args) (hd : o.dst = some d) (hN : Nat.ble (d + 1) Γ.N = true) (h : SpK (GK g vs) P f args [] (Is v)) (next : AO Γ P ops Q rest ((d, v) :: E) H) : AO Γ P ops Q (o :: rest) E H :=
 AO.callMK (H0 := []) (H1 := H) hK hS ho hw hfn hn hb hx hd (Nat.le_of_ble_eq_true hN) (List.Perm.refl _) h (by rintro _ _ ⟨rfl, rfl⟩; exact next)
theorem AO.callK1 {f : FuncId} {d : Nat} {g : Nat} {vs : List Value} {xs : List Operand} {ats : Array TypeId} {args : List AV} {i : Nat} {e e' : HE} {v : AV} {H' : List HE} {fn : Func} (hK : GK g vs Γ.w0) (hS : ¬ Γ.S g) (ho : o.op = .call { callee := .value (.func f), args := xs.toArray, argTypes := ats }) (hw : wantedIs ops E o = some true) (hfn : P.funcs[f]? = some fn) (hn : (fn.name == "runtime.NumGoroutine") = false) (hb : fn.body.isNone = false)
  (hx : evs E xs = some args) (hd : o.dst = some d) (hN : Nat.ble (d + 1) Γ.N = true) (hi : H[i]? = some e) (h : SpK (GK g vs) P f args [e] (IsM v e')) (hH : H.set i e' = H') (next : AO Γ P ops Q rest ((d, v) :: E) H') : AO Γ P ops Q (o :: rest) E H :=
 AO.callMK (H0 := [e]) (H1 := H.eraseIdx i) hK hS ho hw hfn hn hb hx hd (Nat.le_of_ble_eq_true hN) (perm_idx hi) h (by
  rintro _ _ ⟨rfl, rfl⟩
  exact AO.perm (by rw [← hH]; exact perm_set hi) next)
/-- .. that block is not the variable's. -/
theorem AO.callK1n {f : FuncId} {d : Nat} {g : Nat} {vs : List Value} {xs : List Operand} {ats : Array TypeId} {args : List AV} {i B T room : Nat} {ys : List AV} {e' : HE} {v : AV} {H' : List HE} {fn : Func} (hK : GK g vs Γ.w0) (hS : ¬ Γ.S g) (ho : o.op = .call { callee := .value (.func f), args := xs.toArray, argTypes := ats }) (hw : wantedIs ops E o = some true) (hfn : P.funcs[f]? = some fn) (hn : (fn.name == "runtime.NumGoroutine") = false) (hb : fn.body.isNone = false)
  (hx : evs E xs = some args) (hd : o.dst = some d) (hN : Nat.ble (d + 1) Γ.N = true) (hi : H[i]? = some (.blk B T room ys)) (h : B ≠ g → SpK (GK g vs) P f args [.blk B T room ys] (IsM v e')) (hH : H.set i e' = H') (next : AO Γ P ops Q rest ((d, v) :: E) H') : AO Γ P ops Q (o :: rest) E H := fun R a W hs ha => by
 have hB : B ≠ g := fun e => by
  rcases (hs.own _ (List.mem_of_getElem? hi) B rfl).1 with h1 | h1
  ·have := hK.lt; omega
  ·exact hS (by rw [← e]; exact h1)
 exact AO.callK1 hK hS ho hw hfn hn hb hx hd hN hi (h hB) hH next R a W hs ha
/-- A call that leaves one block of the caller's changed, where the guard is known. -/
theorem AO.callM1w {f : FuncId} {d : Nat} {xs : List Operand} {ats : Array TypeId} {args : List AV} {i : Nat} {e e' : HE} {v : AV} {H' : List HE} {fn : Func} (ho : o.op = .call { callee := .value (.func f), args := xs.toArray, argTypes := ats }) (hw : wantedIs ops E o = some true) (hfn : P.funcs[f]? = some fn) (hn : (fn.name == "runtime.NumGoroutine") = false) (hb : fn.body.isNone = false)
  (hx : evs E xs = some args) (hd : o.dst = some d) (hN : Nat.ble (d + 1) Γ.N = true) (hi : H[i]? = some e) (h : Sp P f args [e] (IsM v e')) (hH : H.set i e' = H') (next : AO Γ P ops Q rest ((d, v) :: E) H') : AO Γ P ops Q (o :: rest) E H := by
 refine AO.callMGw i ho hw hfn hn hb hx hd hN hi h ?_
 rintro _ _ ⟨rfl, rfl⟩
 exact AO.perm (by rw [← hH]; exact perm_set hi) next
/-- Reading an array that is a package variable. -/
theorem AO.loadG {T d g k : Nat} {vs : List Value} [hg : TyG P T true k] (hK : GK g vs Γ.w0) (hS : ¬ Γ.S g) (ho : o.op = .load T (.global g)) (hw : wantedIs ops E o = some true) (hd : o.dst = some d) (hN : Nat.ble (d + 1) Γ.N = true) (hk : vs.length = k)
  (next : AO Γ P ops Q rest ((d, .agg (vs.map .val)) :: E) H) : AO Γ P ops Q (o :: rest) E H := fun R a W hs ha => by
 obtain ⟨cs, T', h1, h2⟩ := hK.mods hs.mods hS
 have hl := run_loadVarK hg W g 0 vs hk (fun i u hi => by
  rw [cell_of_row W g (0 + i) cs T' (0, 0) h1]
  rw [← h2] at hi
  simpa using hi)
 have hrun : (execOp a.eval o).run P W = .ok (.value (.agg vs.toArray)) W := by
  simp only [execOp, ho, Act.eval, Instr.loadAt, Instr.sureAddr, Sem.run_bind, Sem.run_pure, Result.andThen_ok, hl]
 unfold wpList
 rw [if_pos (wanted_is ha hw)]
 refine .inl ?_
 unfold Oper.wp
 rw [hrun]
 show wpList P ops Q rest (a.put o.dst _) W
 rw [hd]
 refine next R _ W hs (ha.put (Nat.le_of_ble_eq_true hN) (RelL.toAgg (xs := vs.map .val) (us := vs) ⟨by simp, fun j hj => ?_⟩))
 have hj' : j < vs.length := by simpa using hj
 have : vs.getD j undef = vs[j] := by simp [List.getD, hj']
 rw [this, List.getElem_map]
 exact .val _
/-- x[i] of an array whose elements are of one cell -/
theorem O.index1 {T U : Nat} {x y : Operand} {n : Nat} {kk : IntKind} {z : Int} {xs : List AV} {v : AV} [hd : TyD P T (.array n U)] [hg : TyG P U false 1] (ho : o.op = .index T x y) (hx : ev E x = some (.agg xs)) (hy : ev E y = some (.val (.int kk z))) (hz : 0 ≤ z ∧ z < n) (hv : xs[z.toNat]? = some v) :
  OpW P N o E H (Is v) := .of_run fun R a W h1 h2 ha => by
 obtain ⟨d, inf, hd1, hi1, hk1, hg1⟩ := hg.ax
 obtain ⟨us, hu, hr⟩ := (ha.ev hx).agg_inv
 obtain ⟨u, h3, h4⟩ := hr.get hv
 refine ⟨u, ?_, h4⟩
 simp only [execOp, ho, hu, (ha.ev hy).val_inv, Instr.index, asIntOf, run_underlying hd.ax, Sem.run_bind, Sem.run_pure, Result.andThen_ok, sizeOf, typeInfo, run_program, hi1, hk1]
 rw [if_pos hz]
 cases d <;> first | (cases hg1; done) | (simp [part, isAgg, run_underlying hd1, sizeOf, typeInfo, hi1, hk1, h3])
/-- An error that is nil is nil. -/
theorem O.neqNilI {T T' : Nat} {x : Operand} (hu : ∃ ms, P.underlying T = some (.interface ms)) (ho : o.op = .binOp .neq T x (.const .nilIface) T') (hx : ev E x = some (.val .nilIface)) : OpW P N o E H (Is (.val (.bool false))) := by
 obtain ⟨ms, hu⟩ := hu
 have hr := fun W => run_underlying hu W
 refine O.bin ho hx rfl fun W => ?_
 have h1 : (eqGuard .neq T x (.const .nilIface) .nilIface .nilIface).run P W = .ok () W := by
  unfold eqGuard
  simp
 have h2 : ∀ d, (Op.equalIn (d + 1) T .nilIface .nilIface).run P W = .ok true W := fun d => by
  unfold Op.equalIn
  rw [Sem.run_bind, hr W]
  rfl
 have h3 : (Op.equal T .nilIface .nilIface).run P W = .ok true W := h2 9999
 rw [Sem.run_bind, h1]
 simp only [Result.andThen_ok]
 show (do pure (Value.bool (!(← Op.equal T .nilIface .nilIface))) : Sem Value).run P W = _
 rw [Sem.run_bind, h3]
 rfl
/-! ### Parts of strings -/
def SBnd (E : Env) (lo : Option Operand) (d l : Nat) : Prop := match lo with
 | none => l = d
 | some y => ∃ k z, ev E y = some (.val (.int k z)) ∧ z = (l : Int)
theorem sbnd_run {R : Nat → Prop} {W : World} {a : Act} {lo : Option Operand} {l : Nat} (d n : Nat) (code : BoundsCode) (ha : RelA N R W E a) (h : SBnd E lo d l) (hl : l ≤ n) :
  (match lo.map a.eval with | some v => Instr.sliceBound v n code | none => pure d : Sem Nat).run P W = .ok l W := by
 cases lo with
 | none => obtain rfl : l = d := h; rfl
 | some y =>
  obtain ⟨k, z, h1, rfl⟩ := h
  have hv := (ha.ev h1).val_inv
  simp [hv, Instr.sliceBound, asIntOf, hl]
theorem O.sliceS {T l h : Nat} {x : Operand} {lo hi : Option Operand} {s r : ByteArray} [hT : TyD P T .string] (ho : o.op = .slice T x lo hi none) (hx : ev E x = some (.val (.string s))) (h1 : SBnd E lo 0 l) (h2 : SBnd E hi s.size h) (hlh : l ≤ h) (hh : h ≤ s.size) (hr : s.extract l h = r) : OpW P N o E H (Is (.val (.string r))) := .of_run fun R a W _ _ ha => by
 refine ⟨.string r, ?_, .val _⟩
 have e1 := sbnd_run (P := P) s.size s.size .sliceAlen ha h2 hh
 have e2 := sbnd_run (P := P) 0 h .sliceB ha h1 hlh
 have hv := (ha.ev hx).val_inv
 have hs : (Instr.sliceAt T (.string s) (lo.map a.eval) (hi.map a.eval) none).run P W = .ok (.string r) W := by
  unfold Instr.sliceAt
  rw [Sem.run_bind, run_underlying hT.ax W]
  simp only [Result.andThen_ok]
  unfold Instr.slice
  rw [Sem.run_bind, run_underlying hT.ax W]
  simp only [Result.andThen_ok]
  unfold Instr.sliceBounds
  cases lo <;> cases hi <;> simp_all
 simp only [execOp, ho, hv, Option.map_none, Sem.run_bind, hs, Result.andThen_ok]
 rfl
end
end Go.Proofs.YtoonnnifelnaiaaGreatDoor.A

namespace Go.Proofs.YtoonnnifelnaiaaGreatDoor.By
open Go.RowKit L A Dk
set_option linter.unusedVariables false
set_option maxRecDepth 20000
set_option linter.unusedSimpArgs false
attribute [local irreducible] AW AQ AO
structure PreY (s w r : ByteArray) : Prop where
 a : w.size ≤ s.size
 b : s.extract 0 w.size = w
 c : s.extract w.size s.size = r
structure PreN (s w : ByteArray) : Prop where
 a : s.size < w.size ∨ (w.size ≤ s.size ∧ ((s.extract 0 w.size).toList == w.toList) = false)
instance (s w r : ByteArray) : Decidable (PreY s w r) := decidable_of_iff (w.size ≤ s.size ∧ s.extract 0 w.size = w ∧ s.extract w.size s.size = r) ⟨fun h => ⟨h.1, h.2.1, h.2.2⟩, fun h => ⟨h.a, h.b, h.c⟩⟩
instance (s w : ByteArray) : Decidable (PreN s w) := decidable_of_iff _ ⟨fun h => ⟨h⟩, fun h => h.a⟩
theorem hasPre_yes {s w r : ByteArray} (h : PreY s w r) : Sp Tryz.prog 168 [.val (.string s), .val (.string w)] [] (Is (.val (.bool true))) := by
 obtain ⟨h1, h2, h3⟩ := h
 have hq : ((s.extract 0 w.size).toList == w.toList) = true := by rw [h2]; exact beq_self_eq_true _
 refine Sp.enter Tryz.func168 rfl _ Tryz.ntmps168 rfl (fun w0 R0 => ?_)
 refine AW.seq ?_
 refine AW.region ?_
 refine AO.op (O.assign rfl rfl) rfl rfl rfl ?_
 refine AO.nil ?_
 refine AQ.thenN ?_
 refine AW.seq ?_
 refine AW.region ?_
 refine AO.op (O.move rfl rfl) rfl rfl rfl ?_
 refine AO.op (O.lenS rfl rfl) rfl rfl rfl ?_
 refine AO.op (O.move rfl rfl) rfl rfl rfl ?_
 refine AO.op (O.lenS rfl rfl) rfl rfl rfl ?_
 refine AO.op (O.geq rfl rfl rfl (by exact bTrue (by omega))) rfl rfl rfl ?_
 refine AO.op (O.move rfl rfl) rfl rfl rfl ?_
 refine AO.opG rfl rfl rfl (fun hp => O.move rfl rfl) ?_
 refine AO.opG rfl rfl rfl (fun hp => O.move rfl rfl) ?_
 refine AO.opG rfl rfl rfl (fun hp => OpW.force 12 rfl (by exact hp) (O.lenS rfl rfl)) ?_
 refine AO.opG rfl rfl rfl (fun hp => OpW.force 11 rfl (by exact hp) (OpW.force 13 rfl (by exact hp) (O.sliceS rfl rfl (by exact rfl) (by exact ⟨_, _, rfl, by rfl⟩) (by omega) (by omega) rfl))) ?_
 refine AO.opG rfl rfl rfl (fun hp => O.move rfl rfl) ?_
 refine AO.opG rfl rfl rfl (fun hp => OpW.force 14 rfl (by exact hp) (OpW.force 15 rfl (by exact hp) (O.eqlS rfl rfl rfl (by assumption)))) ?_
 refine AO.op (O.pickAnd rfl rfl rfl rfl (fun h => by exact h)) rfl rfl rfl ?_
 refine AO.op (O.assign rfl rfl) rfl rfl rfl ?_
 refine AO.nil ?_
 refine AQ.thenN ?_
 refine AW.ret ?_
 refine AQ.ret1 rfl rfl ⟨_, List.nil_sublist _, .nil⟩ (⟨rfl, rfl⟩)
theorem hasPre_no {s w : ByteArray} (h : PreN s w) : Sp Tryz.prog 168 [.val (.string s), .val (.string w)] [] (Is (.val (.bool false))) := by
 obtain ⟨h | ⟨h1, h2⟩⟩ := h
 ·refine Sp.enter Tryz.func168 rfl _ Tryz.ntmps168 rfl (fun w0 R0 => ?_)
  refine AW.seq ?_
  refine AW.region ?_
  refine AO.op (O.assign rfl rfl) rfl rfl rfl ?_
  refine AO.nil ?_
  refine AQ.thenN ?_
  refine AW.seq ?_
  refine AW.region ?_
  refine AO.op (O.move rfl rfl) rfl rfl rfl ?_
  refine AO.op (O.lenS rfl rfl) rfl rfl rfl ?_
  refine AO.op (O.move rfl rfl) rfl rfl rfl ?_
  refine AO.op (O.lenS rfl rfl) rfl rfl rfl ?_
  refine AO.op (O.geq rfl rfl rfl (by exact bFalse (by omega))) rfl rfl rfl ?_
  refine AO.op (O.move rfl rfl) rfl rfl rfl ?_
  refine AO.opG rfl rfl rfl (fun hp => O.move rfl rfl) ?_
  refine AO.opG rfl rfl rfl (fun hp => O.move rfl rfl) ?_
  refine AO.opG rfl rfl rfl (fun hp => OpW.force 12 rfl (by exact hp) (O.lenS rfl rfl)) ?_
  refine AO.no rfl rfl rfl ?_
  refine AO.opG rfl rfl rfl (fun hp => O.move rfl rfl) ?_
  refine AO.no rfl rfl rfl ?_
  refine AO.op (O.pickF rfl rfl rfl) rfl rfl rfl ?_
  refine AO.op (O.assign rfl rfl) rfl rfl rfl ?_
  refine AO.nil ?_
  refine AQ.thenN ?_
  refine AW.ret ?_
  refine AQ.ret1 rfl rfl ⟨_, List.nil_sublist _, .nil⟩ (⟨rfl, rfl⟩)
 ·refine Sp.enter Tryz.func168 rfl _ Tryz.ntmps168 rfl (fun w0 R0 => ?_)
  refine AW.seq ?_
  refine AW.region ?_
  refine AO.op (O.assign rfl rfl) rfl rfl rfl ?_
  refine AO.nil ?_
  refine AQ.thenN ?_
  refine AW.seq ?_
  refine AW.region ?_
  refine AO.op (O.move rfl rfl) rfl rfl rfl ?_
  refine AO.op (O.lenS rfl rfl) rfl rfl rfl ?_
  refine AO.op (O.move rfl rfl) rfl rfl rfl ?_
  refine AO.op (O.lenS rfl rfl) rfl rfl rfl ?_
  refine AO.op (O.geq rfl rfl rfl (by exact bTrue (by omega))) rfl rfl rfl ?_
  refine AO.op (O.move rfl rfl) rfl rfl rfl ?_
  refine AO.opG rfl rfl rfl (fun hp => O.move rfl rfl) ?_
  refine AO.opG rfl rfl rfl (fun hp => O.move rfl rfl) ?_
  refine AO.opG rfl rfl rfl (fun hp => OpW.force 12 rfl (by exact hp) (O.lenS rfl rfl)) ?_
  refine AO.opG rfl rfl rfl (fun hp => OpW.force 11 rfl (by exact hp) (OpW.force 13 rfl (by exact hp) (O.sliceS rfl rfl (by exact rfl) (by exact ⟨_, _, rfl, by rfl⟩) (by omega) (by omega) rfl))) ?_
  refine AO.opG rfl rfl rfl (fun hp => O.move rfl rfl) ?_
  refine AO.opG rfl rfl rfl (fun hp => OpW.force 14 rfl (by exact hp) (OpW.force 15 rfl (by exact hp) (O.eqlS rfl rfl rfl (by assumption)))) ?_
  refine AO.op (O.pickAnd rfl rfl rfl rfl (fun h => by exact h)) rfl rfl rfl ?_
  refine AO.op (O.assign rfl rfl) rfl rfl rfl ?_
  refine AO.nil ?_
  refine AQ.thenN ?_
  refine AW.ret ?_
  refine AQ.ret1 rfl rfl ⟨_, List.nil_sublist _, .nil⟩ (⟨rfl, rfl⟩)
theorem cutPre_yes {s w r : ByteArray} (h : PreY s w r) : Sp Tryz.prog 120 [.val (.string s), .val (.string w)] [] (Is (.tup [.val (.string r), .val (.bool true)])) := by
 have h1 := h.a
 have h2 := h.c
 have hi : Sp Tryz.prog 141 [.val (.string s), .val (.string w)] [] (Is (.tup [.val (.string r), .val (.bool true)])) := by
  refine Sp.enter Tryz.func141 rfl _ Tryz.ntmps141 rfl (fun w0 R0 => ?_)
  refine AW.seq ?_
  refine AW.region ?_
  refine AO.op (O.assign rfl rfl) rfl rfl rfl ?_
  refine AO.op (O.assign rfl rfl) rfl rfl rfl ?_
  refine AO.nil ?_
  refine AQ.thenN ?_
  refine AW.seq ?_
  refine AW.seq ?_
  refine AW.region ?_
  refine AO.op (O.move rfl rfl) rfl rfl rfl ?_
  refine AO.op (O.move rfl rfl) rfl rfl rfl ?_
  refine AO.op (O.call rfl Tryz.func168 rfl rfl rfl (hasPre_yes ‹_›)) rfl rfl rfl ?_
  refine AO.op (O.not rfl rfl (by rfl)) rfl rfl rfl ?_
  refine AO.nil ?_
  refine AQ.thenN ?_
  refine AW.condF rfl ?_
  refine AW.skip ?_
  refine AQ.thenN ?_
  refine AW.seq ?_
  refine AW.region ?_
  refine AO.op (O.move rfl rfl) rfl rfl rfl ?_
  refine AO.op (O.move rfl rfl) rfl rfl rfl ?_
  refine AO.op (O.lenS rfl rfl) rfl rfl rfl ?_
  refine AO.op (O.sliceS rfl rfl (by exact ⟨_, _, rfl, by rfl⟩) (by exact rfl) (by omega) (by omega) (by assumption)) rfl rfl rfl ?_
  refine AO.op (O.assign rfl rfl) rfl rfl rfl ?_
  refine AO.op (O.assign rfl rfl) rfl rfl rfl ?_
  refine AO.nil ?_
  refine AQ.thenN ?_
  refine AW.ret ?_
  refine AQ.ret2 rfl rfl rfl ⟨_, List.nil_sublist _, .nil⟩ (⟨rfl, rfl⟩)
 refine Sp.enter Tryz.func120 rfl _ Tryz.ntmps120 rfl (fun w0 R0 => ?_)
 refine AW.seq ?_
 refine AW.region ?_
 refine AO.op (O.assign rfl rfl) rfl rfl rfl ?_
 refine AO.op (O.assign rfl rfl) rfl rfl rfl ?_
 refine AO.nil ?_
 refine AQ.thenN ?_
 refine AW.seq ?_
 refine AW.region ?_
 refine AO.op (O.move rfl rfl) rfl rfl rfl ?_
 refine AO.op (O.move rfl rfl) rfl rfl rfl ?_
 refine AO.op (O.call rfl Tryz.func141 rfl rfl rfl (hi)) rfl rfl rfl ?_
 refine AO.op (O.extract rfl rfl rfl) rfl rfl rfl ?_
 refine AO.op (O.extract rfl rfl rfl) rfl rfl rfl ?_
 refine AO.op (O.assign rfl rfl) rfl rfl rfl ?_
 refine AO.op (O.assign rfl rfl) rfl rfl rfl ?_
 refine AO.nil ?_
 refine AQ.thenN ?_
 refine AW.ret ?_
 refine AQ.ret2 rfl rfl rfl ⟨_, List.nil_sublist _, .nil⟩ (⟨rfl, rfl⟩)
theorem cutPre_no {s w : ByteArray} (h : PreN s w) : Sp Tryz.prog 120 [.val (.string s), .val (.string w)] [] (Is (.tup [.val (.string s), .val (.bool false)])) := by
 have hi : Sp Tryz.prog 141 [.val (.string s), .val (.string w)] [] (Is (.tup [.val (.string s), .val (.bool false)])) := by
  refine Sp.enter Tryz.func141 rfl _ Tryz.ntmps141 rfl (fun w0 R0 => ?_)
  refine AW.seq ?_
  refine AW.region ?_
  refine AO.op (O.assign rfl rfl) rfl rfl rfl ?_
  refine AO.op (O.assign rfl rfl) rfl rfl rfl ?_
  refine AO.nil ?_
  refine AQ.thenN ?_
  refine AW.seq ?_
  refine AW.seq ?_
  refine AW.region ?_
  refine AO.op (O.move rfl rfl) rfl rfl rfl ?_
  refine AO.op (O.move rfl rfl) rfl rfl rfl ?_
  refine AO.op (O.call rfl Tryz.func168 rfl rfl rfl (hasPre_no ‹_›)) rfl rfl rfl ?_
  refine AO.op (O.not rfl rfl (by rfl)) rfl rfl rfl ?_
  refine AO.nil ?_
  refine AQ.thenN ?_
  refine AW.condT rfl ?_
  refine AW.seq ?_
  refine AW.region ?_
  refine AO.op (O.move rfl rfl) rfl rfl rfl ?_
  refine AO.op (O.assign rfl rfl) rfl rfl rfl ?_
  refine AO.op (O.assign rfl rfl) rfl rfl rfl ?_
  refine AO.nil ?_
  refine AQ.thenN ?_
  refine AW.ret ?_
  refine AQ.thenR ?_
  refine AQ.ret2 rfl rfl rfl ⟨_, List.nil_sublist _, .nil⟩ (⟨rfl, rfl⟩)
 refine Sp.enter Tryz.func120 rfl _ Tryz.ntmps120 rfl (fun w0 R0 => ?_)
 refine AW.seq ?_
 refine AW.region ?_
 refine AO.op (O.assign rfl rfl) rfl rfl rfl ?_
 refine AO.op (O.assign rfl rfl) rfl rfl rfl ?_
 refine AO.nil ?_
 refine AQ.thenN ?_
 refine AW.seq ?_
 refine AW.region ?_
 refine AO.op (O.move rfl rfl) rfl rfl rfl ?_
 refine AO.op (O.move rfl rfl) rfl rfl rfl ?_
 refine AO.op (O.call rfl Tryz.func141 rfl rfl rfl (hi)) rfl rfl rfl ?_
 refine AO.op (O.extract rfl rfl rfl) rfl rfl rfl ?_
 refine AO.op (O.extract rfl rfl rfl) rfl rfl rfl ?_
 refine AO.op (O.assign rfl rfl) rfl rfl rfl ?_
 refine AO.op (O.assign rfl rfl) rfl rfl rfl ?_
 refine AO.nil ?_
 refine AQ.thenN ?_
 refine AW.ret ?_
 refine AQ.ret2 rfl rfl rfl ⟨_, List.nil_sublist _, .nil⟩ (⟨rfl, rfl⟩)
abbrev parsB (B : Nat) (s : ByteArray) (n : Int) (bad : Bool) : HE := .blk B 151 3 [.val (.string s), .val (.int .i64 n), .val (.bool bad)]
theorem skip_yes {B : Nat} {s w : ByteArray} (r : ByteArray) {n : Int} {bad : Bool} (h : PreY s w r) : Sp Tryz.prog 99 [ptr B, .val (.string w)] [parsB B s n bad] (IsM (.val (.bool true)) (parsB B r n bad)) := by
 refine Sp.enter Tryz.func99 rfl _ Tryz.ntmps99 rfl (fun w0 R0 => ?_)
 refine AW.seq ?_
 refine AW.region ?_
 refine AO.op (O.assign rfl rfl) rfl rfl rfl ?_
 refine AO.nil ?_
 refine AQ.thenN ?_
 refine AW.seq ?_
 refine AW.region ?_
 refine AO.op (O.move rfl rfl) rfl rfl rfl ?_
 refine AO.op (O.nilCheck rfl rfl) rfl rfl rfl ?_
 refine AO.op (O.fieldAddr rfl rfl) rfl rfl rfl ?_
 refine AO.op (O.load rfl rfl (by repeat (exact List.Mem.head _)) (by rfl)) rfl rfl rfl ?_
 refine AO.op (O.move rfl rfl) rfl rfl rfl ?_
 refine AO.op (O.call rfl Tryz.func120 rfl rfl rfl (cutPre_yes ‹_›)) rfl rfl rfl ?_
 refine AO.op (O.move rfl rfl) rfl rfl rfl ?_
 refine AO.op (O.extract rfl rfl rfl) rfl rfl rfl ?_
 refine AO.op (O.extract rfl rfl rfl) rfl rfl rfl ?_
 refine AO.op (O.assign rfl rfl) rfl rfl rfl ?_
 refine AO.op (O.assign rfl rfl) rfl rfl rfl ?_
 refine AO.nil ?_
 refine AQ.thenN ?_
 refine AW.seq ?_
 refine AW.seq ?_
 refine AW.region ?_
 refine AO.op (O.move rfl rfl) rfl rfl rfl ?_
 refine AO.nil ?_
 refine AQ.thenN ?_
 refine AW.condT rfl ?_
 refine AW.region ?_
 refine AO.op (O.move rfl rfl) rfl rfl rfl ?_
 refine AO.op (O.move rfl rfl) rfl rfl rfl ?_
 refine AO.op (O.nilCheck rfl rfl) rfl rfl rfl ?_
 refine AO.op (O.fieldAddr rfl rfl) rfl rfl rfl ?_
 refine AO.store (i := 0) rfl rfl rfl rfl rfl rfl (by rfl) (by rfl) (by rfl) (by rfl) (by rfl) ?_
 refine AO.nil ?_
 refine AQ.thenN ?_
 refine AW.seq ?_
 refine AW.region ?_
 refine AO.op (O.move rfl rfl) rfl rfl rfl ?_
 refine AO.op (O.assign rfl rfl) rfl rfl rfl ?_
 refine AO.nil ?_
 refine AQ.thenN ?_
 refine AW.ret ?_
 refine AQ.ret1 rfl rfl ⟨_, by repeat (first | exact List.Sublist.slnil | refine List.Sublist.cons_cons _ ?_), List.Perm.refl _⟩ (⟨rfl, rfl⟩)
theorem skip_no {B : Nat} {s w : ByteArray} {n : Int} {bad : Bool} (h : PreN s w) : Sp Tryz.prog 99 [ptr B, .val (.string w)] [parsB B s n bad] (IsM (.val (.bool false)) (parsB B s n bad)) := by
 refine Sp.enter Tryz.func99 rfl _ Tryz.ntmps99 rfl (fun w0 R0 => ?_)
 refine AW.seq ?_
 refine AW.region ?_
 refine AO.op (O.assign rfl rfl) rfl rfl rfl ?_
 refine AO.nil ?_
 refine AQ.thenN ?_
 refine AW.seq ?_
 refine AW.region ?_
 refine AO.op (O.move rfl rfl) rfl rfl rfl ?_
 refine AO.op (O.nilCheck rfl rfl) rfl rfl rfl ?_
 refine AO.op (O.fieldAddr rfl rfl) rfl rfl rfl ?_
 refine AO.op (O.load rfl rfl (by repeat (exact List.Mem.head _)) (by rfl)) rfl rfl rfl ?_
 refine AO.op (O.move rfl rfl) rfl rfl rfl ?_
 refine AO.op (O.call rfl Tryz.func120 rfl rfl rfl (cutPre_no ‹_›)) rfl rfl rfl ?_
 refine AO.op (O.move rfl rfl) rfl rfl rfl ?_
 refine AO.op (O.extract rfl rfl rfl) rfl rfl rfl ?_
 refine AO.op (O.extract rfl rfl rfl) rfl rfl rfl ?_
 refine AO.op (O.assign rfl rfl) rfl rfl rfl ?_
 refine AO.op (O.assign rfl rfl) rfl rfl rfl ?_
 refine AO.nil ?_
 refine AQ.thenN ?_
 refine AW.seq ?_
 refine AW.seq ?_
 refine AW.region ?_
 refine AO.op (O.move rfl rfl) rfl rfl rfl ?_
 refine AO.nil ?_
 refine AQ.thenN ?_
 refine AW.condF rfl ?_
 refine AW.skip ?_
 refine AQ.thenN ?_
 refine AW.seq ?_
 refine AW.region ?_
 refine AO.op (O.move rfl rfl) rfl rfl rfl ?_
 refine AO.op (O.assign rfl rfl) rfl rfl rfl ?_
 refine AO.nil ?_
 refine AQ.thenN ?_
 refine AW.ret ?_
 refine AQ.ret1 rfl rfl ⟨_, by repeat (first | exact List.Sublist.slnil | refine List.Sublist.cons_cons _ ?_), List.Perm.refl _⟩ (⟨rfl, rfl⟩)
/-! ### Numbers of one digit -/
def dig (z : Int) : ByteArray := ⟨#[u8 (48 + z)]⟩
theorem small_fn (z : Int) (hz : 0 ≤ z ∧ z < 10) : Sp Tryz.prog 137 [.val (.int .i64 z)] [] (Is (.val (.string (dig z)))) := by
 have hc : z = 0 ∨ z = 1 ∨ z = 2 ∨ z = 3 ∨ z = 4 ∨ z = 5 ∨ z = 6 ∨ z = 7 ∨ z = 8 ∨ z = 9 := by omega
 have hb : ∀ w : ByteArray, w = ⟨#[48, 49, 50, 51, 52, 53, 54, 55, 56, 57, 97, 98, 99, 100, 101, 102, 103, 104, 105, 106, 107, 108, 109, 110, 111, 112, 113, 114, 115, 116, 117, 118, 119, 120, 121, 122]⟩ → (z + 1).toNat ≤ w.size := by
  rintro w rfl
  show _ ≤ 36
  omega
 have he : ∀ w : ByteArray, w = ⟨#[48, 49, 50, 51, 52, 53, 54, 55, 56, 57, 97, 98, 99, 100, 101, 102, 103, 104, 105, 106, 107, 108, 109, 110, 111, 112, 113, 114, 115, 116, 117, 118, 119, 120, 121, 122]⟩ → w.extract z.toNat (z + 1).toNat = dig z := by
  rintro w rfl
  rcases hc with rfl | rfl | rfl | rfl | rfl | rfl | rfl | rfl | rfl | rfl <;> decide +kernel
 refine Sp.enter Tryz.func137 rfl _ Tryz.ntmps137 rfl (fun w0 R0 => ?_)
 refine AW.seq ?_
 refine AW.region ?_
 refine AO.op (O.assign rfl rfl) rfl rfl rfl ?_
 refine AO.nil ?_
 refine AQ.thenN ?_
 refine AW.seq ?_
 refine AW.seq ?_
 refine AW.region ?_
 refine AO.op (O.move rfl rfl) rfl rfl rfl ?_
 refine AO.op (O.lss rfl rfl rfl (by exact bTrue (by omega))) rfl rfl rfl ?_
 refine AO.nil ?_
 refine AQ.thenN ?_
 refine AW.condT rfl ?_
 refine AW.seq ?_
 refine AW.region ?_
 refine AO.op (O.move rfl rfl) rfl rfl rfl ?_
 refine AO.op (O.move rfl rfl) rfl rfl rfl ?_
 refine AO.op (O.add rfl rfl rfl (by exact wI64 (by omega))) rfl rfl rfl ?_
 refine AO.op (O.sliceS rfl rfl (by exact ⟨_, _, rfl, by omega⟩) (by exact ⟨_, _, rfl, by omega⟩) (by omega) (hb _ rfl) (he _ rfl)) rfl rfl rfl ?_
 refine AO.op (O.assign rfl rfl) rfl rfl rfl ?_
 refine AO.nil ?_
 refine AQ.thenN ?_
 refine AW.ret ?_
 refine AQ.thenR ?_
 refine AQ.ret1 rfl rfl ⟨_, List.nil_sublist _, .nil⟩ (⟨rfl, rfl⟩)
end Go.Proofs.YtoonnnifelnaiaaGreatDoor.By

namespace Go.Proofs.YtoonnnifelnaiaaGreatDoor.By
open Go.RowKit L A Dk
set_option linter.unusedVariables false
set_option maxRecDepth 20000
set_option linter.unusedSimpArgs false
attribute [local irreducible] AW AQ AO
/-- A row of bytes as yield. -/
def RowB (T : Nat) (l : List UInt8) : AV → List HE → Prop := fun r Hn => ∃ V : Value, V.oneCell' = true ∧ r = .val V ∧ Hn = [.row V T 1 l.length (bytesA l)]
theorem bytesA_snoc (l : List UInt8) (b : UInt8) : bytesA (l ++ [b]) = bytesA l ++ [.val (.int .u8 (b.toNat : Int))] := by simp [bytesA]
theorem retRB {V : Value} {T n : Nat} {l : List UInt8} {xs : List AV} (hV : V.oneCell' = true) (hn : n = l.length) (hx : xs = bytesA l) : RowB T l (.val V) [.row V T 1 n xs] := by
 subst hn; subst hx; exact ⟨V, hV, rfl, rfl⟩
theorem app1_fn (V : Value) (l : List UInt8) (z : Int) (hl : l.length ≤ 1000) (hz : 0 ≤ z ∧ z < 10) : Sp Tryz.prog 119 [.val V, .val (.int .u64 z), .val (.int .i64 10)] [.row V 5 1 l.length (bytesA l)] (RowB 5 (l ++ [u8 (48 + z)])) := by
 have hds : (dig z).size = 1 := rfl
 have e1 : l.length + (dig z).size = (l ++ [u8 (48 + z)]).length := by rw [List.length_append]; rfl
 have e2 : bytesA l ++ List.map AV.val (byteCells (dig z)) = bytesA (l ++ [u8 (48 + z)]) := by rw [bytesA_snoc]; rfl
 refine Sp.enter Tryz.func119 rfl _ Tryz.ntmps119 rfl (fun w0 R0 => ?_)
 refine AW.seq ?_
 refine AW.region ?_
 refine AO.op (O.assign rfl rfl) rfl rfl rfl ?_
 refine AO.nil ?_
 refine AQ.thenN ?_
 refine AW.seq ?_
 refine AW.seq ?_
 refine AW.region ?_
 refine AO.op (O.move rfl rfl) rfl rfl rfl ?_
 refine AO.op (O.eql rfl rfl rfl (by exact beq_iff_eq.2 (by omega))) rfl rfl rfl ?_
 refine AO.nil ?_
 refine AQ.thenN ?_
 refine AW.condT rfl ?_
 refine AW.seq ?_
 refine AW.seq ?_
 refine AW.region ?_
 refine AO.op (O.move rfl rfl) rfl rfl rfl ?_
 refine AO.op (O.lss rfl rfl rfl (by exact bTrue (by omega))) rfl rfl rfl ?_
 refine AO.nil ?_
 refine AQ.thenN ?_
 refine AW.condT rfl ?_
 refine AW.seq ?_
 refine AW.region ?_
 refine AO.op (O.move rfl rfl) rfl rfl rfl ?_
 refine AO.op (O.move rfl rfl) rfl rfl rfl ?_
 refine AO.op (O.conv rfl rfl (by exact wI64 (by omega))) rfl rfl rfl ?_
 refine AO.op (O.call rfl Tryz.func137 rfl rfl rfl (small_fn z ⟨by omega, by omega⟩)) rfl rfl rfl ?_
 (refine AO.append' (i := 0) rfl rfl rfl rfl (by rfl) (by rfl) rfl rfl rfl (by exact SrcA.str TyD.ax (by rfl)) (by rfl) (by (unfold maxLen; omega)) (by omega) (by (dsimp only [List.set, List.cons_append, List.nil_append, List.take, List.drop]; done)) (fun _ => by (dsimp only [List.set]; done)) ?_)
 intro V1 hV1
 refine AO.op (O.assign rfl rfl) rfl rfl rfl ?_
 refine AO.nil ?_
 refine AQ.thenN ?_
 refine AW.ret ?_
 refine AQ.thenR ?_
 refine AQ.thenR ?_
 refine AQ.ret1 rfl rfl ⟨_, by repeat (first | exact List.Sublist.slnil | refine List.Sublist.cons_cons _ ?_), List.Perm.refl _⟩ (retRB hV1 e1 e2)
theorem app_fn (V : Value) (l : List UInt8) (z : Int) (hl : l.length ≤ 1000) (hz : 0 ≤ z ∧ z < 10) : Sp Tryz.prog 96 [.val V, .val (.int .u64 z), .val (.int .i64 10)] [.row V 5 1 l.length (bytesA l)] (RowB 5 (l ++ [u8 (48 + z)])) := by
 refine Sp.enter Tryz.func96 rfl _ Tryz.ntmps96 rfl (fun w0 R0 => ?_)
 refine AW.seq ?_
 refine AW.region ?_
 refine AO.op (O.assign rfl rfl) rfl rfl rfl ?_
 refine AO.nil ?_
 refine AQ.thenN ?_
 refine AW.seq ?_
 refine AW.region ?_
 refine AO.op (O.move rfl rfl) rfl rfl rfl ?_
 refine AO.op (O.move rfl rfl) rfl rfl rfl ?_
 refine AO.op (O.move rfl rfl) rfl rfl rfl ?_
 refine AO.callMG 0 rfl rfl Tryz.func119 rfl rfl rfl rfl rfl rfl (app1_fn V l z hl hz) ?_
 rintro _ _ ⟨V1, hV1, rfl, rfl⟩
 dsimp only [List.cons_append, List.nil_append, List.eraseIdx]
 refine AO.op (O.assign rfl rfl) rfl rfl rfl ?_
 refine AO.nil ?_
 refine AQ.thenN ?_
 refine AW.ret ?_
 refine AQ.ret1 rfl rfl ⟨_, by repeat (first | exact List.Sublist.slnil | refine List.Sublist.cons_cons _ ?_), List.Perm.refl _⟩ (⟨V1, hV1, rfl, rfl⟩)
/-! ### The text 1 -/
theorem parse1_fn : Sp Tryz.prog 124 [.val (.string ⟨#[49]⟩), .val (.int .i64 10), .val (.int .i64 64)] [] (Is (.tup [.val (.int .u64 1), .val .nilIface])) := by
 have q1 : ((⟨#[49]⟩ : ByteArray).toList == (⟨#[]⟩ : ByteArray).toList) = false := by decide +kernel
 have hlen : ([49] : List UInt8).length = 1 := rfl
 refine Sp.enter Tryz.func124 rfl _ Tryz.ntmps124 rfl (fun w0 R0 => ?_)
 refine AW.seq ?_
 refine AW.region ?_
 refine AO.op (O.assign rfl rfl) rfl rfl rfl ?_
 refine AO.op (O.assign rfl rfl) rfl rfl rfl ?_
 refine AO.nil ?_
 refine AQ.thenN ?_
 refine AW.seq ?_
 refine AW.seq ?_
 refine AW.region ?_
 refine AO.op (O.move rfl rfl) rfl rfl rfl ?_
 refine AO.op (O.eqlS rfl rfl rfl (by assumption)) rfl rfl rfl ?_
 refine AO.nil ?_
 refine AQ.thenN ?_
 refine AW.condF rfl ?_
 refine AW.skip ?_
 refine AQ.thenN ?_
 refine AW.seq ?_
 refine AW.region ?_
 refine AO.op (O.move rfl rfl) rfl rfl rfl ?_
 refine AO.op (O.eql rfl rfl rfl (by exact beq_eq_false_iff_ne.2 (by omega))) rfl rfl rfl ?_
 refine AO.op (O.assign rfl rfl) rfl rfl rfl ?_
 refine AO.nil ?_
 refine AQ.thenN ?_
 refine AW.seq ?_
 refine AW.region ?_
 refine AO.op (O.move rfl rfl) rfl rfl rfl ?_
 refine AO.op (O.assign rfl rfl) rfl rfl rfl ?_
 refine AO.nil ?_
 refine AQ.thenN ?_
 refine AW.seq ?_
 refine AW.block ?_
 refine AW.seq ?_
 refine AW.region ?_
 refine AO.op (O.move rfl rfl) rfl rfl rfl ?_
 refine AO.op (O.leq rfl rfl rfl (by exact bTrue (by omega))) rfl rfl rfl ?_
 refine AO.op (O.move rfl rfl) rfl rfl rfl ?_
 refine AO.opG rfl rfl rfl (fun hp => O.move rfl rfl) ?_
 refine AO.opG rfl rfl rfl (fun hp => OpW.force 29 rfl (by exact hp) (O.leq rfl rfl rfl (by exact bTrue (by omega)))) ?_
 refine AO.op (O.pickAnd rfl rfl rfl rfl (fun h => by exact h)) rfl rfl rfl ?_
 refine AO.op (O.assign rfl rfl) rfl rfl rfl ?_
 refine AO.nil ?_
 refine AQ.thenN ?_
 refine AW.condT rfl ?_
 refine AW.skip ?_
 refine AQ.blockN ?_
 refine AQ.thenN ?_
 refine AW.seq ?_
 refine AW.seq ?_
 refine AW.region ?_
 refine AO.op (O.move rfl rfl) rfl rfl rfl ?_
 refine AO.op (O.eql rfl rfl rfl (by exact beq_eq_false_iff_ne.2 (by omega))) rfl rfl rfl ?_
 refine AO.nil ?_
 refine AQ.thenN ?_
 refine AW.condF rfl ?_
 refine AW.seq ?_
 refine AW.region ?_
 refine AO.op (O.move rfl rfl) rfl rfl rfl ?_
 refine AO.op (O.lss rfl rfl rfl (by exact bFalse (by omega))) rfl rfl rfl ?_
 refine AO.op (O.move rfl rfl) rfl rfl rfl ?_
 refine AO.opG rfl rfl rfl (fun hp => O.move rfl rfl) ?_
 refine AO.opG rfl rfl rfl (fun hp => OpW.force 81 rfl (by exact hp) (O.gtr rfl rfl rfl (by exact bFalse (by omega)))) ?_
 refine AO.op (O.pickOr rfl rfl rfl rfl (fun h => by exact congrArg (fun b => !b) h)) rfl rfl rfl ?_
 refine AO.nil ?_
 refine AQ.thenN ?_
 refine AW.condF rfl ?_
 refine AW.skip ?_
 refine AQ.thenN ?_
 refine AW.seq ?_
 refine AW.region ?_
 refine AO.op (O.assign rfl rfl) rfl rfl rfl ?_
 refine AO.nil ?_
 refine AQ.thenN ?_
 refine AW.seq ?_
 refine AW.seq ?_
 refine AW.region ?_
 refine AO.op (O.move rfl rfl) rfl rfl rfl ?_
 refine AO.nil ?_
 refine AQ.thenN ?_
 refine AW.block ?_
 refine AW.seq ?_
 refine AW.region ?_
 refine AO.op (O.eql rfl rfl rfl (by exact beq_iff_eq.2 (by omega))) rfl rfl rfl ?_
 refine AO.op (O.assign rfl rfl) rfl rfl rfl ?_
 refine AO.nil ?_
 refine AQ.thenN ?_
 refine AW.condT rfl ?_
 refine AW.region ?_
 refine AO.op (O.assign rfl rfl) rfl rfl rfl ?_
 refine AO.nil ?_
 refine AQ.blockN ?_
 refine AQ.thenN ?_
 refine AW.seq ?_
 refine AW.region ?_
 refine AO.op (O.move rfl rfl) rfl rfl rfl ?_
 refine AO.op (O.conv rfl rfl (by exact wU64 (by omega))) rfl rfl rfl ?_
 refine AO.op (O.shl rfl rfl rfl (by omega) rfl) rfl rfl rfl ?_
 refine AO.op (O.sub rfl rfl rfl (by rfl)) rfl rfl rfl ?_
 refine AO.op (O.assign rfl rfl) rfl rfl rfl ?_
 refine AO.nil ?_
 refine AQ.thenN ?_
 refine AW.seq ?_
 refine AW.region ?_
 refine AO.op (O.assign rfl rfl) rfl rfl rfl ?_
 refine AO.nil ?_
 refine AQ.thenN ?_
 refine AW.seq ?_
 refine AW.region ?_
 refine AO.op (O.assign rfl rfl) rfl rfl rfl ?_
 refine AO.nil ?_
 refine AQ.thenN ?_
 refine AW.seq ?_
 refine AW.seq ?_
 refine AW.region ?_
 refine AO.op (O.move rfl rfl) rfl rfl rfl ?_
 refine AO.op (O.toBytes rfl rfl rfl (by (unfold maxLen; simp; done))) rfl rfl rfl ?_
 refine AO.op (O.lenR rfl rfl) rfl rfl rfl ?_
 refine AO.op (O.move rfl rfl) rfl rfl rfl ?_
 refine AO.nil ?_
 refine AQ.thenN ?_
 refine AW.block ?_
 refine AW.loopK [(1, _), (8, _), (9, _), (10, _), (11, _), (99, _), (100, _)] (fun nn E H => ∃ (k : Nat), (k ≤ 1) ∧ nn = 1 - k ∧ E = [(12, .val (.bool false)), (13, .val (.int .u64 (k : Int))), (101, .val (.int .i64 (k : Int)))] ∧ H = []) _ (⟨0, by omega, rfl, rfl, rfl⟩) (by repeat (first | exact envNil | refine envCons rfl ?_)) (by repeat (first | exact envNil | refine envCons rfl ?_)) (by repeat (exact subPnil)) ?_
 rintro nn E H ⟨k, hk, rfl, rfl, rfl⟩
 dsimp only [List.cons_append, List.nil_append]
 refine AW.seq ?_
 refine AW.region ?_
 refine AO.op (O.lss rfl rfl rfl (by rfl)) rfl rfl rfl ?_
 refine AO.nil ?_
 refine AQ.thenN ?_
 refine AW.seq ?_
 refine AW.split rfl (fun hlt => ?_) (fun hlt => ?_) <;> (try simp only [decide_eq_true_eq, decide_eq_false_iff_not, beq_iff_eq, beq_eq_false_iff_ne, bne_iff_ne, bne_eq_false_iff_eq, Bool.not_eq_true', Bool.not_eq_false', Bool.not_eq_true, Bool.not_eq_false, ne_eq, Int.not_lt, Int.not_le, Bool.and_eq_true, Bool.or_eq_true, Bool.or_eq_false_iff, Bool.and_eq_false_imp, strOf_toList, Decidable.not_not] at hlt)
 ·skip
  obtain rfl : k = 0 := by omega
  refine AW.skip ?_
  refine AQ.thenN ?_
  refine AW.seq ?_
  refine AW.block ?_
  refine AW.seq ?_
  refine AW.region ?_
  refine AO.op (O.idxR rfl rfl rfl ⟨(by omega), (by omega)⟩) rfl rfl rfl ?_
  refine AO.op (O.loadR rfl rfl (by rfl)) rfl rfl rfl ?_
  refine AO.op (O.assign rfl rfl) rfl rfl rfl ?_
  refine AO.nil ?_
  refine AQ.thenN ?_
  refine AW.seq ?_
  refine AW.region ?_
  refine AO.op (O.assign rfl rfl) rfl rfl rfl ?_
  refine AO.nil ?_
  refine AQ.thenN ?_
  refine AW.seq ?_
  refine AW.block ?_
  refine AW.seq ?_
  refine AW.region ?_
  refine AO.op (O.move rfl rfl) rfl rfl rfl ?_
  refine AO.op (O.eql rfl rfl rfl (by rfl)) rfl rfl rfl ?_
  refine AO.op (O.move rfl rfl) rfl rfl rfl ?_
  refine AO.opG rfl rfl rfl (fun hp => O.move rfl rfl) ?_
  refine AO.op (O.pickAnd rfl rfl rfl rfl (fun h => by exact h)) rfl rfl rfl ?_
  refine AO.op (O.assign rfl rfl) rfl rfl rfl ?_
  refine AO.nil ?_
  refine AQ.thenN ?_
  refine AW.condF rfl ?_
  refine AW.seq ?_
  refine AW.region ?_
  refine AO.op (O.move rfl rfl) rfl rfl rfl ?_
  refine AO.op (O.leq rfl rfl rfl (by rfl)) rfl rfl rfl ?_
  refine AO.op (O.move rfl rfl) rfl rfl rfl ?_
  refine AO.opG rfl rfl rfl (fun hp => O.move rfl rfl) ?_
  refine AO.opG rfl rfl rfl (fun hp => OpW.force 116 rfl (by exact hp) (O.leq rfl rfl rfl (by assumption))) ?_
  refine AO.op (O.pickAnd rfl rfl rfl rfl (fun h => by exact h)) rfl rfl rfl ?_
  refine AO.op (O.assign rfl rfl) rfl rfl rfl ?_
  refine AO.nil ?_
  refine AQ.thenN ?_
  refine AW.condT rfl ?_
  refine AW.region ?_
  refine AO.op (O.move rfl rfl) rfl rfl rfl ?_
  refine AO.op (O.sub rfl rfl rfl (by rfl)) rfl rfl rfl ?_
  refine AO.op (O.assign rfl rfl) rfl rfl rfl ?_
  refine AO.nil ?_
  refine AQ.blockN ?_
  refine AQ.thenN ?_
  refine AW.seq ?_
  refine AW.seq ?_
  refine AW.region ?_
  refine AO.op (O.move rfl rfl) rfl rfl rfl ?_
  refine AO.op (O.move rfl rfl) rfl rfl rfl ?_
  refine AO.op (O.conv rfl rfl (by exact wU8 (by omega))) rfl rfl rfl ?_
  refine AO.op (O.geq rfl rfl rfl (by rfl)) rfl rfl rfl ?_
  refine AO.nil ?_
  refine AQ.thenN ?_
  refine AW.condF rfl ?_
  refine AW.skip ?_
  refine AQ.thenN ?_
  refine AW.seq ?_
  refine AW.seq ?_
  refine AW.region ?_
  refine AO.op (O.move rfl rfl) rfl rfl rfl ?_
  refine AO.op (O.move rfl rfl) rfl rfl rfl ?_
  refine AO.op (O.geq rfl rfl rfl (by exact bFalse (by omega))) rfl rfl rfl ?_
  refine AO.nil ?_
  refine AQ.thenN ?_
  refine AW.condF rfl ?_
  refine AW.skip ?_
  refine AQ.thenN ?_
  refine AW.seq ?_
  refine AW.region ?_
  refine AO.op (O.move rfl rfl) rfl rfl rfl ?_
  refine AO.op (O.move rfl rfl) rfl rfl rfl ?_
  refine AO.op (O.conv rfl rfl (by exact wU64 (by omega))) rfl rfl rfl ?_
  refine AO.op (O.mul rfl rfl rfl (by exact wU64 (by omega))) rfl rfl rfl ?_
  refine AO.op (O.assign rfl rfl) rfl rfl rfl ?_
  refine AO.nil ?_
  refine AQ.thenN ?_
  refine AW.seq ?_
  refine AW.region ?_
  refine AO.op (O.move rfl rfl) rfl rfl rfl ?_
  refine AO.op (O.move rfl rfl) rfl rfl rfl ?_
  refine AO.op (O.conv rfl rfl (by rfl)) rfl rfl rfl ?_
  refine AO.op (O.add rfl rfl rfl (by rfl)) rfl rfl rfl ?_
  refine AO.op (O.assign rfl rfl) rfl rfl rfl ?_
  refine AO.nil ?_
  refine AQ.thenN ?_
  refine AW.seq ?_
  refine AW.seq ?_
  refine AW.region ?_
  refine AO.op (O.move rfl rfl) rfl rfl rfl ?_
  refine AO.op (O.move rfl rfl) rfl rfl rfl ?_
  refine AO.op (O.lss rfl rfl rfl (by rfl)) rfl rfl rfl ?_
  refine AO.op (O.move rfl rfl) rfl rfl rfl ?_
  refine AO.opG rfl rfl rfl (fun hp => O.move rfl rfl) ?_
  refine AO.opG rfl rfl rfl (fun hp => O.move rfl rfl) ?_
  refine AO.opG rfl rfl rfl (fun hp => OpW.force 156 rfl (by exact hp) (OpW.force 157 rfl (by exact hp) (O.gtr rfl rfl rfl (by rfl)))) ?_
  refine AO.op (O.pickOr rfl rfl rfl rfl (fun h => by exact congrArg (fun b => !b) h)) rfl rfl rfl ?_
  refine AO.nil ?_
  refine AQ.thenN ?_
  refine AW.condF rfl ?_
  refine AW.skip ?_
  refine AQ.thenN ?_
  refine AW.region ?_
  refine AO.op (O.move rfl rfl) rfl rfl rfl ?_
  refine AO.op (O.assign rfl rfl) rfl rfl rfl ?_
  refine AO.nil ?_
  refine AQ.blockN ?_
  refine AQ.thenN ?_
  refine AW.region ?_
  refine AO.op (O.add rfl rfl rfl (by exact wI64 (by omega))) rfl rfl rfl ?_
  refine AO.op (O.move rfl rfl) rfl rfl rfl ?_
  refine AO.nil ?_
  refine AQ.loopKN _ _ _ (by omega) (⟨1, by omega, rfl, rfl, rfl⟩) (by repeat (first | exact envNil | refine envCons rfl ?_)) (by repeat (first | exact envNil | refine envCons rfl ?_)) (by repeat (exact subPnil))
 ·skip
  obtain rfl : k = 1 := by omega
  refine AW.exit ?_
  refine AQ.thenX ?_
  refine AQ.loopX ?_
  refine AQ.blockX rfl ?_
  refine AQ.thenN ?_
  refine AW.seq ?_
  refine AW.seq ?_
  refine AW.region ?_
  refine AO.op (O.move rfl rfl) rfl rfl rfl ?_
  refine AO.op (O.move rfl rfl) rfl rfl rfl ?_
  refine AO.opG rfl rfl rfl (fun hp => O.move rfl rfl) ?_
  refine AO.no rfl rfl rfl ?_
  refine AO.no rfl rfl rfl ?_
  refine AO.op (O.pickF rfl rfl rfl) rfl rfl rfl ?_
  refine AO.nil ?_
  refine AQ.thenN ?_
  refine AW.condF rfl ?_
  refine AW.skip ?_
  refine AQ.thenN ?_
  refine AW.seq ?_
  refine AW.region ?_
  refine AO.op (O.move rfl rfl) rfl rfl rfl ?_
  refine AO.op (O.assign rfl rfl) rfl rfl rfl ?_
  refine AO.op (O.assign rfl rfl) rfl rfl rfl ?_
  refine AO.nil ?_
  refine AQ.thenN ?_
  refine AW.ret ?_
  refine AQ.ret2 rfl rfl rfl ⟨_, List.nil_sublist _, .nil⟩ (⟨rfl, rfl⟩)
end Go.Proofs.YtoonnnifelnaiaaGreatDoor.By

namespace Go.Proofs.YtoonnnifelnaiaaGreatDoor.By
open Go.RowKit L A
set_option linter.unusedVariables false
set_option maxRecDepth 20000
set_option linter.unusedSimpArgs false
attribute [local irreducible] AW AQ AO
def getO? (os : List Opt) (n : Int) : Option (List UInt8) := (os.find? fun o => o.num == n).map Opt.val
abbrev resG (r : Option (List UInt8)) : AV := .tup [roB (r.getD []), .val (.bool r.isSome)]
theorem retG {q : AV} {r : Option (List UInt8)} {a : List UInt8} {b : Bool} (h : r.getD [] = a) (h2 : r.isSome = b) (hq : q = .tup [roB a, .val (.bool b)]) : Is (resG r) q [] := by subst h; subst h2; exact ⟨hq, rfl⟩
theorem getO_take {os : List Opt} {n : Int} {k : Nat} (hk : k < os.length) (h : getO? (os.take k) n = none) : getO? (os.take (k + 1)) n = if (oat os k).num = n then some (oat os k).val else none := by
 rw [take_snoc Opt.none hk]
 unfold getO? at *
 rw [Option.map_eq_none_iff] at h
 rw [List.find?_append, h, Option.none_or, List.find?_singleton]
 by_cases e : (os.getD k Opt.none).num = n
 ·rw [if_pos (by simpa using e), if_pos e]; rfl
 ·rw [if_neg (by simpa using e), if_neg e]; rfl
theorem getO_app {os ps : List Opt} {n : Int} {v : List UInt8} (h : getO? os n = some v) : getO? (os ++ ps) n = some v := by
 unfold getO? at *
 rw [Option.map_eq_some_iff] at h ⊢
 obtain ⟨o, ho, rfl⟩ := h
 exact ⟨o, by rw [List.find?_append, ho]; rfl, rfl⟩
set_option maxHeartbeats 4000000 in
theorem oget_fn (m : Msg) (n : Int) (h3 : m.opts.length ≤ 1000000) (hat : ∀ o ∈ m.opts, o.val.length ≤ 140737488355328) : Sp Tryz.prog 17 [aggM m, .val (.int .i64 n)] [] (Is (resG (getO? m.opts n))) := by
 refine Sp.enter Tryz.func17 rfl _ Tryz.ntmps17 rfl (fun w0 R0 => ?_)
 refine AW.seq ?_
 refine AW.region ?_
 refine AO.opB (O.box rfl rfl rfl rfl rfl) rfl rfl rfl ?_
 intro B1
 refine AO.op (O.assign rfl rfl) rfl rfl rfl ?_
 refine AO.op (O.assign rfl rfl) rfl rfl rfl ?_
 refine AO.nil ?_
 refine AQ.thenN ?_
 refine AW.seq ?_
 refine AW.seq ?_
 refine AW.region ?_
 refine AO.op (O.fieldAddr rfl rfl) rfl rfl rfl ?_
 refine AO.op (O.load rfl rfl (by repeat (exact List.Mem.head _)) (by rfl)) rfl rfl rfl ?_
 refine AO.op (O.lenR rfl rfl) rfl rfl rfl ?_
 refine AO.op (O.move rfl rfl) rfl rfl rfl ?_
 refine AO.nil ?_
 refine AQ.thenN ?_
 refine AW.block ?_
 refine AW.loopK [(1, _), (9, _), (10, _)] (fun nn E H => ∃ (k : Nat), (k ≤ m.opts.length) ∧ (getO? (m.opts.take k) n = none) ∧ nn = m.opts.length - k ∧ E = [(11, .val (.int .i64 (k : Int)))] ∧ H = [.blk B1 41 6 [.val (.int .i64 m.ty), .val (.int .i64 m.code), .val (.int .i64 m.id), roB m.tok, roO m.opts, roB m.pay]]) _ (⟨0, by omega, rfl, rfl, rfl, rfl⟩) (by repeat (first | exact envNil | refine envCons rfl ?_)) (by repeat (first | exact envNil | refine envCons rfl ?_)) (by repeat (first | exact subPnil | refine subPcons 0 rfl ?_)) ?_
 rintro nn E H ⟨k, h4, hno, rfl, rfl, rfl⟩
 dsimp only [List.cons_append, List.nil_append]
 refine AW.seq ?_
 refine AW.region ?_
 refine AO.op (O.lss rfl rfl rfl (by rfl)) rfl rfl rfl ?_
 refine AO.nil ?_
 refine AQ.thenN ?_
 refine AW.seq ?_
 refine AW.split rfl (fun h5 => ?_) (fun h5 => ?_) <;> (try simp only [decide_eq_true_eq, decide_eq_false_iff_not, beq_iff_eq, beq_eq_false_iff_ne, bne_iff_ne, bne_eq_false_iff_eq, Bool.not_eq_true', Bool.not_eq_false', Bool.not_eq_true, Bool.not_eq_false, ne_eq, Int.not_lt, Int.not_le, Bool.and_eq_true, Bool.or_eq_true, Bool.or_eq_false_iff, Bool.and_eq_false_imp, strOf_toList, Decidable.not_not] at h5)
 ·skip
  have hk : k < m.opts.length := by omega
  have hv : (oat m.opts k).val.length ≤ 140737488355328 := hat _ (getD_mem Opt.none hk)
  have hsc := getO_take hk hno
  refine AW.skip ?_
  refine AQ.thenN ?_
  refine AW.seq ?_
  refine AW.block ?_
  refine AW.seq ?_
  refine AW.region ?_
  refine AO.op (O.idxR rfl rfl rfl ⟨(by omega), (by omega)⟩) rfl rfl rfl ?_
  refine AO.op (O.loadRK rfl rfl (by exact getO (by omega) (by omega)) (by rfl)) rfl rfl rfl ?_
  refine AO.opB (O.alloc rfl (by (dsimp only [zerosA, List.replicate, List.append, List.flatten, AV.cells, Value.cells, List.toList_toArray, List.map]; done)) (by rfl)) rfl rfl rfl ?_
  intro B2
  (refine AO.store (i := 0) rfl rfl rfl rfl rfl rfl (by rfl) (by rfl) (by rfl) (by (dsimp only [List.set, List.cons_append, List.nil_append, List.take, List.drop]; done)) (by (dsimp only [List.set, List.cons_append, List.nil_append, List.take, List.drop]; done)) ?_)
  refine AO.nil ?_
  refine AQ.thenN ?_
  refine AW.seq ?_
  refine AW.region ?_
  refine AO.op (O.fieldAddr rfl rfl) rfl rfl rfl ?_
  refine AO.op (O.load rfl rfl (by repeat (exact List.Mem.head _)) (by rfl)) rfl rfl rfl ?_
  refine AO.op (O.move rfl rfl) rfl rfl rfl ?_
  refine AO.op (O.eql rfl rfl rfl (by rfl)) rfl rfl rfl ?_
  refine AO.nil ?_
  refine AQ.thenN ?_
  refine AW.split rfl (fun h6 => ?_) (fun h6 => ?_) <;> (try simp only [decide_eq_true_eq, decide_eq_false_iff_not, beq_iff_eq, beq_eq_false_iff_ne, bne_iff_ne, bne_eq_false_iff_eq, Bool.not_eq_true', Bool.not_eq_false', Bool.not_eq_true, Bool.not_eq_false, ne_eq, Int.not_lt, Int.not_le, Bool.and_eq_true, Bool.or_eq_true, Bool.or_eq_false_iff, Bool.and_eq_false_imp, strOf_toList, Decidable.not_not] at h6)
  ·skip
   rw [if_pos h6] at hsc
   have hr : getO? m.opts n = some (oat m.opts k).val := by
    have := getO_app (ps := m.opts.drop (k + 1)) hsc
    rwa [List.take_append_drop] at this
   refine AW.seq ?_
   refine AW.region ?_
   refine AO.op (O.fieldAddr rfl rfl) rfl rfl rfl ?_
   refine AO.op (O.load rfl rfl (by repeat (exact List.Mem.head _)) (by rfl)) rfl rfl rfl ?_
   refine AO.op (O.call rfl Tryz.func49 rfl rfl rfl (clone_fn _ (by assumption))) rfl rfl rfl ?_
   refine AO.op (O.assign rfl rfl) rfl rfl rfl ?_
   refine AO.op (O.assign rfl rfl) rfl rfl rfl ?_
   refine AO.nil ?_
   refine AQ.thenN ?_
   refine AW.ret ?_
   refine AQ.blockR ?_
   refine AQ.thenR ?_
   refine AQ.loopR ?_
   refine AQ.blockR ?_
   refine AQ.thenR ?_
   refine AQ.ret2 rfl rfl rfl ⟨_, List.nil_sublist _, .nil⟩ (retG (r := getO? m.opts n) (congrArg (fun r => Option.getD r []) hr) (congrArg Option.isSome hr) rfl)
  ·skip
   rw [if_neg h6] at hsc
   refine AW.skip ?_
   refine AQ.blockN ?_
   refine AQ.thenN ?_
   refine AW.region ?_
   refine AO.op (O.add rfl rfl rfl (by exact wI64 (by omega))) rfl rfl rfl ?_
   refine AO.op (O.move rfl rfl) rfl rfl rfl ?_
   refine AO.nil ?_
   refine AQ.loopKN _ _ _ (by omega) (⟨k + 1, by omega, hsc, rfl, rfl, rfl⟩) (by repeat (first | exact envNil | refine envCons rfl ?_)) (by repeat (first | exact envNil | refine envCons rfl ?_)) (by repeat (first | exact subPnil | refine subPcons 1 rfl ?_))
 ·skip
  obtain rfl : k = m.opts.length := by omega
  rw [List.take_length] at hno
  refine AW.exit ?_
  refine AQ.thenX ?_
  refine AQ.loopX ?_
  refine AQ.blockX rfl ?_
  refine AQ.thenN ?_
  refine AW.seq ?_
  refine AW.region ?_
  refine AO.op (O.assign rfl rfl) rfl rfl rfl ?_
  refine AO.op (O.assign rfl rfl) rfl rfl rfl ?_
  refine AO.nil ?_
  refine AQ.thenN ?_
  refine AW.ret ?_
  refine FnQ.coe (AQ.ret2 rfl rfl rfl ⟨_, List.nil_sublist _, .nil⟩ ⟨rfl, rfl⟩) (Coe.tup (by (repeat (first | exact CoeL.nil | refine CoeL.cons Coe.rfl ?_ | refine CoeL.cons Coe.nil ?_)); done)) (retG (r := getO? m.opts n) (congrArg (fun r => Option.getD r []) hno) (congrArg Option.isSome hno) rfl)
theorem uintL_snoc (l : List UInt8) (b : UInt8) : uintL (l ++ [b]) = uintL l * 256 + (b.toNat : Int) := by simp [uintL]
theorem uintL_bd : ∀ (n : Nat) (l : List UInt8), l.length = n → 0 ≤ uintL l ∧ uintL l < ((256 ^ n : Nat) : Int)
 | 0, l, h => by
  obtain rfl := List.eq_nil_of_length_eq_zero h
  exact ⟨by decide, by decide⟩
 | n + 1, l, h => by
  have hn : l ≠ [] := by rintro rfl; simp at h
  have hl := List.dropLast_concat_getLast hn
  have ih := uintL_bd n l.dropLast (by rw [List.length_dropLast, h]; rfl)
  rw [← hl, uintL_snoc, Nat.pow_succ]
  have := (l.getLast hn).toNat_lt
  omega
theorem uintL_in {l : List UInt8} (k : Nat) (h : l.length ≤ k) : 0 ≤ uintL l ∧ uintL l < ((256 ^ k : Nat) : Int) := by
 have h1 := uintL_bd l.length l rfl
 have h2 : 256 ^ l.length ≤ 256 ^ k := Nat.pow_le_pow_right (by omega) h
 omega
theorem ouint_fn (l : List UInt8) (hl : l.length ≤ 4) : Sp Tryz.prog 18 [roB l] [] (Is (.tup [.val (.int .i64 (uintL l)), .val (.int .i64 0)])) := by
 refine Sp.enter Tryz.func18 rfl _ Tryz.ntmps18 rfl (fun w0 R0 => ?_)
 refine AW.seq ?_
 refine AW.region ?_
 refine AO.op (O.assign rfl rfl) rfl rfl rfl ?_
 refine AO.op (O.assign rfl rfl) rfl rfl rfl ?_
 refine AO.nil ?_
 refine AQ.thenN ?_
 refine AW.seq ?_
 refine AW.region ?_
 refine AO.op (O.assign rfl rfl) rfl rfl rfl ?_
 refine AO.nil ?_
 refine AQ.thenN ?_
 refine AW.seq ?_
 refine AW.seq ?_
 refine AW.region ?_
 refine AO.op (O.move rfl rfl) rfl rfl rfl ?_
 refine AO.op (O.lenR rfl rfl) rfl rfl rfl ?_
 refine AO.op (O.move rfl rfl) rfl rfl rfl ?_
 refine AO.nil ?_
 refine AQ.thenN ?_
 refine AW.block ?_
 refine AW.loopK [(7, _), (8, _)] (fun nn E H => ∃ (k : Nat) (z : Int), (k ≤ l.length) ∧ (z = uintL (l.take k)) ∧ nn = l.length - k ∧ E = [(4, .val (.int .i64 z)), (9, .val (.int .i64 (k : Int)))] ∧ H = []) _ (⟨0, 0, by omega, rfl, rfl, rfl, rfl⟩) (by repeat (first | exact envNil | refine envCons rfl ?_)) (by repeat (first | exact envNil | refine envCons rfl ?_)) (by repeat (exact subPnil)) ?_
 rintro nn E H ⟨k, z, h4, hz, rfl, rfl, rfl⟩
 dsimp only [List.cons_append, List.nil_append]
 have hb : 0 ≤ uintL (l.take k) ∧ uintL (l.take k) < 4294967296 := uintL_in 4 (by rw [List.length_take]; omega)
 rw [← hz] at hb
 refine AW.seq ?_
 refine AW.region ?_
 refine AO.op (O.lss rfl rfl rfl (by rfl)) rfl rfl rfl ?_
 refine AO.nil ?_
 refine AQ.thenN ?_
 refine AW.seq ?_
 refine AW.split rfl (fun h5 => ?_) (fun h5 => ?_) <;> (try simp only [decide_eq_true_eq, decide_eq_false_iff_not, beq_iff_eq, beq_eq_false_iff_ne, bne_iff_ne, bne_eq_false_iff_eq, Bool.not_eq_true', Bool.not_eq_false', Bool.not_eq_true, Bool.not_eq_false, ne_eq, Int.not_lt, Int.not_le, Bool.and_eq_true, Bool.or_eq_true, Bool.or_eq_false_iff, Bool.and_eq_false_imp, strOf_toList, Decidable.not_not] at h5)
 ·skip
  have hk : k < l.length := by omega
  have hu := u8_lt (bt l k)
  have hb3 : 0 ≤ uintL (l.take k) ∧ uintL (l.take k) < 16777216 := uintL_in 3 (by rw [List.length_take]; omega)
  rw [← hz] at hb3
  have hs := uintL_snoc (l.take k) (bt l k)
  rw [← take_bt hk, ← hz] at hs
  refine AW.skip ?_
  refine AQ.thenN ?_
  refine AW.seq ?_
  refine AW.block ?_
  refine AW.seq ?_
  refine AW.region ?_
  refine AO.op (O.idxR rfl rfl rfl ⟨(by omega), (by omega)⟩) rfl rfl rfl ?_
  refine AO.op (O.loadR rfl rfl (by exact bt_at (by assumption) (by omega))) rfl rfl rfl ?_
  refine AO.op (O.assign rfl rfl) rfl rfl rfl ?_
  refine AO.nil ?_
  refine AQ.thenN ?_
  refine AW.seq ?_
  refine AW.region ?_
  refine AO.op (O.move rfl rfl) rfl rfl rfl ?_
  refine AO.op (O.shlK 8 256 rfl rfl rfl rfl (by rfl) (by exact wI64 (by omega))) rfl rfl rfl ?_
  refine AO.op (O.move rfl rfl) rfl rfl rfl ?_
  refine AO.op (O.conv rfl rfl (by exact wI64 (by omega))) rfl rfl rfl ?_
  refine AO.op (O.or_ rfl rfl rfl (orI64 8 (m := 256) (by decide) (by omega) (by omega))) rfl rfl rfl ?_
  refine AO.op (O.assign rfl rfl) rfl rfl rfl ?_
  refine AO.nil ?_
  refine AQ.thenN ?_
  refine AW.seq ?_
  refine AW.region ?_
  refine AO.op (O.move rfl rfl) rfl rfl rfl ?_
  refine AO.op (O.gtr rfl rfl rfl (by exact bFalse (by omega))) rfl rfl rfl ?_
  refine AO.nil ?_
  refine AQ.thenN ?_
  refine AW.condF rfl ?_
  refine AW.skip ?_
  refine AQ.blockN ?_
  refine AQ.thenN ?_
  refine AW.region ?_
  refine AO.op (O.add rfl rfl rfl (by exact wI64 (by omega))) rfl rfl rfl ?_
  refine AO.op (O.move rfl rfl) rfl rfl rfl ?_
  refine AO.nil ?_
  refine AQ.loopKN _ _ _ (by omega) (⟨k + 1, z * 256 + ((bt l k).toNat : Int), by omega, hs.symm, rfl, rfl, rfl⟩) (by repeat (first | exact envNil | refine envCons rfl ?_)) (by repeat (first | exact envNil | refine envCons rfl ?_)) (by repeat (exact subPnil))
 ·skip
  obtain rfl : k = l.length := by omega
  rw [List.take_length] at hz
  subst hz
  refine AW.exit ?_
  refine AQ.thenX ?_
  refine AQ.loopX ?_
  refine AQ.blockX rfl ?_
  refine AQ.thenN ?_
  refine AW.seq ?_
  refine AW.region ?_
  refine AO.op (O.move rfl rfl) rfl rfl rfl ?_
  refine AO.op (O.assign rfl rfl) rfl rfl rfl ?_
  refine AO.op (O.assign rfl rfl) rfl rfl rfl ?_
  refine AO.nil ?_
  refine AQ.thenN ?_
  refine AW.ret ?_
  refine AQ.ret2 rfl rfl rfl ⟨_, List.nil_sublist _, .nil⟩ (⟨rfl, rfl⟩)
def fromTo (n : Int) (k : Nat) : List UInt8 := ((([16777216, 65536, 256, 1] : List Int).take k).filter fun p => decide (0 < n / p)).map fun p => u8 (n / p)
theorem fromTo_succ (n : Int) {k : Nat} {p : Int} (h : ([16777216, 65536, 256, 1] : List Int)[k]? = some p) : fromTo n (k + 1) = fromTo n k ++ if 0 < n / p then [u8 (n / p)] else [] := by
 unfold fromTo
 rw [List.take_add_one, h, Option.toList_some, List.filter_append, List.map_append]
 congr 1
 by_cases e : 0 < n / p
 ·rw [if_pos e, List.filter_cons_of_pos (by simpa using e)]; rfl
 ·rw [if_neg e, List.filter_cons_of_neg (by simpa using e)]; rfl
theorem fromuint_fn (n : Int) (hn : 0 ≤ n ∧ n < 4294967296) : Sp Tryz.prog 16 [.val (.int .i64 n)] [] (Is (roB (fromU n))) := by
 refine Sp.enter Tryz.func16 rfl _ Tryz.ntmps16 rfl (fun w0 R0 => ?_)
 refine AW.seq ?_
 refine AW.region ?_
 refine AO.op (O.assign rfl rfl) rfl rfl rfl ?_
 refine AO.nil ?_
 refine AQ.thenN ?_
 refine AW.seq ?_
 refine AW.seq ?_
 refine AW.region ?_
 refine AO.op (O.move rfl rfl) rfl rfl rfl ?_
 refine AO.op (O.lss rfl rfl rfl (by exact bFalse (by omega))) rfl rfl rfl ?_
 refine AO.op (O.move rfl rfl) rfl rfl rfl ?_
 refine AO.op (O.move rfl rfl) rfl rfl rfl ?_
 refine AO.op (O.gtr rfl rfl rfl (by exact bFalse (by omega))) rfl rfl rfl ?_
 refine AO.op (O.pickF rfl rfl rfl) rfl rfl rfl ?_
 refine AO.nil ?_
 refine AQ.thenN ?_
 refine AW.condF rfl ?_
 refine AW.skip ?_
 refine AQ.thenN ?_
 refine AW.seq ?_
 refine AW.region ?_
 refine AO.op (O.assign rfl rfl) rfl rfl rfl ?_
 refine AO.nil ?_
 refine AQ.thenN ?_
 refine AW.seq ?_
 refine AW.seq ?_
 refine AW.region ?_
 refine AO.op (O.assign rfl rfl) rfl rfl rfl ?_
 refine AO.nil ?_
 refine AQ.thenN ?_
 refine AW.block ?_
 refine AW.g ?_
 refine G.nilRow 5 1 ?_
 refine AW.u ?_
 refine AW.loopK [(0, _)] (fun nn E H => ∃ (k : Nat) (V : Value) (l : List UInt8), (k ≤ 4) ∧ (V.oneCell' = true) ∧ (l = fromTo n k) ∧ (l.length ≤ k) ∧ nn = 5 - k ∧ E = [(3, .val V), (4, .val (.int .i64 (24 - 8 * (k : Int))))] ∧ H = [.row V 5 1 l.length (bytesA l)]) _ (⟨0, _, [], by omega, rfl, rfl, by simp, rfl, rfl, rfl⟩) (by repeat (first | exact envNil | refine envCons rfl ?_)) (by repeat (first | exact envNil | refine envCons rfl ?_)) (by repeat (first | exact subPnil | refine subPcons 0 rfl ?_)) ?_
 rintro nn E H ⟨k, V, l, hk, hV, hl, hll, rfl, rfl, rfl⟩
 dsimp only [List.cons_append, List.nil_append]
 obtain rfl | rfl | rfl | rfl | rfl : k = 0 ∨ k = 1 ∨ k = 2 ∨ k = 3 ∨ k = 4 := by omega
 ·skip
  have hs := fromTo_succ n (k := 0) (p := 16777216) rfl
  have hd : 0 ≤ n / 16777216 := Int.ediv_nonneg hn.1 (by decide)
  refine AW.seq ?_
  refine AW.seq ?_
  refine AW.region ?_
  refine AO.op (O.move rfl rfl) rfl rfl rfl ?_
  refine AO.op (O.geq rfl rfl rfl (by exact bTrue (by omega))) rfl rfl rfl ?_
  refine AO.nil ?_
  refine AQ.thenN ?_
  refine AW.condT rfl ?_
  refine AW.skip ?_
  refine AQ.thenN ?_
  refine AW.seq ?_
  refine AW.block ?_
  refine AW.seq ?_
  refine AW.region ?_
  refine AO.op (O.move rfl rfl) rfl rfl rfl ?_
  refine AO.op (O.move rfl rfl) rfl rfl rfl ?_
  refine AO.op (O.shrK 24 16777216 rfl rfl rfl (by rfl) (by rfl)) rfl rfl rfl ?_
  refine AO.op (O.gtr rfl rfl rfl (by rfl)) rfl rfl rfl ?_
  refine AO.nil ?_
  refine AQ.thenN ?_
  refine AW.split rfl (fun h1 => ?_) (fun h1 => ?_) <;> (try simp only [decide_eq_true_eq, decide_eq_false_iff_not, beq_iff_eq, beq_eq_false_iff_ne, bne_iff_ne, bne_eq_false_iff_eq, Bool.not_eq_true', Bool.not_eq_false', Bool.not_eq_true, Bool.not_eq_false, ne_eq, Int.not_lt, Int.not_le, Bool.and_eq_true, Bool.or_eq_true, Bool.or_eq_false_iff, Bool.and_eq_false_imp, strOf_toList, Decidable.not_not] at h1)
  ·skip
   rw [if_pos h1, ← hl] at hs
   refine AW.region ?_
   refine AO.op (O.move rfl rfl) rfl rfl rfl ?_
   refine AO.op (O.move rfl rfl) rfl rfl rfl ?_
   refine AO.op (O.move rfl rfl) rfl rfl rfl ?_
   refine AO.op (O.shrK 24 16777216 rfl rfl rfl (by rfl) (by rfl)) rfl rfl rfl ?_
   refine AO.op (O.conv rfl rfl wU8any) rfl rfl rfl ?_
   refine AO.opB (O.buildSlice rfl rfl rfl (by rfl) (by rfl) (by rfl) (by rfl)) rfl rfl rfl ?_
   intro B1
   refine AO.g ?_
   (refine G.freezeSl 0 24 rfl rfl ⟨Nat.le_refl _, by unfold maxLen; omega⟩ ?_)
   refine G.unfull 24 rfl ?_
   refine AO.u ?_
   dsimp only [List.eraseIdx]
   (refine AO.append' (i := 0) rfl rfl rfl rfl (by rfl) (by rfl) rfl rfl rfl (by exact SrcA.ro TyD.ax (by rfl) (Nat.le_of_ble_eq_true rfl)) (by rfl) (by (unfold maxLen; omega)) (by omega) (by (dsimp only [List.set, List.cons_append, List.nil_append, List.take, List.drop]; done)) (fun _ => by (dsimp only [List.set]; done)) ?_)
   intro V2 hV2
   refine AO.op (O.assign rfl rfl) rfl rfl rfl ?_
   refine AO.nil ?_
   refine AQ.blockN ?_
   refine AQ.thenN ?_
   refine AW.region ?_
   refine AO.op (O.move rfl rfl) rfl rfl rfl ?_
   refine AO.op (O.sub rfl rfl rfl (by exact wI64 (by omega))) rfl rfl rfl ?_
   refine AO.op (O.assign rfl rfl) rfl rfl rfl ?_
   refine AO.nil ?_
   have hr : l.length + 1 = (fromTo n (0 + 1)).length := by rw [hs, List.length_append]; rfl
   have hr2 : bytesA l ++ [.val (.int .u8 ((u8 (n / 16777216)).toNat : Int))] = bytesA (fromTo n (0 + 1)) := by rw [hs, bytesA_snoc]
   refine AQ.loopKN _ _ _ (by omega) (⟨1, _, fromTo n (0 + 1), by omega, ‹_›, rfl, by omega, rfl, rfl, by rw [← hr, ← hr2]⟩) (by repeat (first | exact envNil | refine envCons rfl ?_)) (by repeat (first | exact envNil | refine envCons rfl ?_)) (by repeat (first | exact subPnil | refine subPcons 0 rfl ?_))
  ·skip
   rw [if_neg (by omega), List.append_nil, ← hl] at hs
   refine AW.skip ?_
   refine AQ.blockN ?_
   refine AQ.thenN ?_
   refine AW.region ?_
   refine AO.op (O.move rfl rfl) rfl rfl rfl ?_
   refine AO.op (O.sub rfl rfl rfl (by exact wI64 (by omega))) rfl rfl rfl ?_
   refine AO.op (O.assign rfl rfl) rfl rfl rfl ?_
   refine AO.nil ?_
   refine AQ.loopKN _ _ _ (by omega) (⟨1, V, l, by omega, hV, hs.symm, by omega, rfl, rfl, rfl⟩) (by repeat (first | exact envNil | refine envCons rfl ?_)) (by repeat (first | exact envNil | refine envCons rfl ?_)) (by repeat (first | exact subPnil | refine subPcons 0 rfl ?_))
 ·skip
  have hs := fromTo_succ n (k := 1) (p := 65536) rfl
  have hd : 0 ≤ n / 65536 := Int.ediv_nonneg hn.1 (by decide)
  refine AW.seq ?_
  refine AW.seq ?_
  refine AW.region ?_
  refine AO.op (O.move rfl rfl) rfl rfl rfl ?_
  refine AO.op (O.geq rfl rfl rfl (by exact bTrue (by omega))) rfl rfl rfl ?_
  refine AO.nil ?_
  refine AQ.thenN ?_
  refine AW.condT rfl ?_
  refine AW.skip ?_
  refine AQ.thenN ?_
  refine AW.seq ?_
  refine AW.block ?_
  refine AW.seq ?_
  refine AW.region ?_
  refine AO.op (O.move rfl rfl) rfl rfl rfl ?_
  refine AO.op (O.move rfl rfl) rfl rfl rfl ?_
  refine AO.op (O.shrK 16 65536 rfl rfl rfl (by rfl) (by rfl)) rfl rfl rfl ?_
  refine AO.op (O.gtr rfl rfl rfl (by rfl)) rfl rfl rfl ?_
  refine AO.nil ?_
  refine AQ.thenN ?_
  refine AW.split rfl (fun h1 => ?_) (fun h1 => ?_) <;> (try simp only [decide_eq_true_eq, decide_eq_false_iff_not, beq_iff_eq, beq_eq_false_iff_ne, bne_iff_ne, bne_eq_false_iff_eq, Bool.not_eq_true', Bool.not_eq_false', Bool.not_eq_true, Bool.not_eq_false, ne_eq, Int.not_lt, Int.not_le, Bool.and_eq_true, Bool.or_eq_true, Bool.or_eq_false_iff, Bool.and_eq_false_imp, strOf_toList, Decidable.not_not] at h1)
  ·skip
   rw [if_pos h1, ← hl] at hs
   refine AW.region ?_
   refine AO.op (O.move rfl rfl) rfl rfl rfl ?_
   refine AO.op (O.move rfl rfl) rfl rfl rfl ?_
   refine AO.op (O.move rfl rfl) rfl rfl rfl ?_
   refine AO.op (O.shrK 16 65536 rfl rfl rfl (by rfl) (by rfl)) rfl rfl rfl ?_
   refine AO.op (O.conv rfl rfl wU8any) rfl rfl rfl ?_
   refine AO.opB (O.buildSlice rfl rfl rfl (by rfl) (by rfl) (by rfl) (by rfl)) rfl rfl rfl ?_
   intro B1
   refine AO.g ?_
   (refine G.freezeSl 0 24 rfl rfl ⟨Nat.le_refl _, by unfold maxLen; omega⟩ ?_)
   refine G.unfull 24 rfl ?_
   refine AO.u ?_
   dsimp only [List.eraseIdx]
   (refine AO.append' (i := 0) rfl rfl rfl rfl (by rfl) (by rfl) rfl rfl rfl (by exact SrcA.ro TyD.ax (by rfl) (Nat.le_of_ble_eq_true rfl)) (by rfl) (by (unfold maxLen; omega)) (by omega) (by (dsimp only [List.set, List.cons_append, List.nil_append, List.take, List.drop]; done)) (fun _ => by (dsimp only [List.set]; done)) ?_)
   intro V2 hV2
   refine AO.op (O.assign rfl rfl) rfl rfl rfl ?_
   refine AO.nil ?_
   refine AQ.blockN ?_
   refine AQ.thenN ?_
   refine AW.region ?_
   refine AO.op (O.move rfl rfl) rfl rfl rfl ?_
   refine AO.op (O.sub rfl rfl rfl (by exact wI64 (by omega))) rfl rfl rfl ?_
   refine AO.op (O.assign rfl rfl) rfl rfl rfl ?_
   refine AO.nil ?_
   have hr : l.length + 1 = (fromTo n (1 + 1)).length := by rw [hs, List.length_append]; rfl
   have hr2 : bytesA l ++ [.val (.int .u8 ((u8 (n / 65536)).toNat : Int))] = bytesA (fromTo n (1 + 1)) := by rw [hs, bytesA_snoc]
   refine AQ.loopKN _ _ _ (by omega) (⟨2, _, fromTo n (1 + 1), by omega, ‹_›, rfl, by omega, rfl, rfl, by rw [← hr, ← hr2]⟩) (by repeat (first | exact envNil | refine envCons rfl ?_)) (by repeat (first | exact envNil | refine envCons rfl ?_)) (by repeat (first | exact subPnil | refine subPcons 0 rfl ?_))
  ·skip
   rw [if_neg (by omega), List.append_nil, ← hl] at hs
   refine AW.skip ?_
   refine AQ.blockN ?_
   refine AQ.thenN ?_
   refine AW.region ?_
   refine AO.op (O.move rfl rfl) rfl rfl rfl ?_
   refine AO.op (O.sub rfl rfl rfl (by exact wI64 (by omega))) rfl rfl rfl ?_
   refine AO.op (O.assign rfl rfl) rfl rfl rfl ?_
   refine AO.nil ?_
   refine AQ.loopKN _ _ _ (by omega) (⟨2, V, l, by omega, hV, hs.symm, by omega, rfl, rfl, rfl⟩) (by repeat (first | exact envNil | refine envCons rfl ?_)) (by repeat (first | exact envNil | refine envCons rfl ?_)) (by repeat (first | exact subPnil | refine subPcons 0 rfl ?_))
 ·skip
  have hs := fromTo_succ n (k := 2) (p := 256) rfl
  have hd : 0 ≤ n / 256 := Int.ediv_nonneg hn.1 (by decide)
  refine AW.seq ?_
  refine AW.seq ?_
  refine AW.region ?_
  refine AO.op (O.move rfl rfl) rfl rfl rfl ?_
  refine AO.op (O.geq rfl rfl rfl (by exact bTrue (by omega))) rfl rfl rfl ?_
  refine AO.nil ?_
  refine AQ.thenN ?_
  refine AW.condT rfl ?_
  refine AW.skip ?_
  refine AQ.thenN ?_
  refine AW.seq ?_
  refine AW.block ?_
  refine AW.seq ?_
  refine AW.region ?_
  refine AO.op (O.move rfl rfl) rfl rfl rfl ?_
  refine AO.op (O.move rfl rfl) rfl rfl rfl ?_
  refine AO.op (O.shrK 8 256 rfl rfl rfl (by rfl) (by rfl)) rfl rfl rfl ?_
  refine AO.op (O.gtr rfl rfl rfl (by rfl)) rfl rfl rfl ?_
  refine AO.nil ?_
  refine AQ.thenN ?_
  refine AW.split rfl (fun h1 => ?_) (fun h1 => ?_) <;> (try simp only [decide_eq_true_eq, decide_eq_false_iff_not, beq_iff_eq, beq_eq_false_iff_ne, bne_iff_ne, bne_eq_false_iff_eq, Bool.not_eq_true', Bool.not_eq_false', Bool.not_eq_true, Bool.not_eq_false, ne_eq, Int.not_lt, Int.not_le, Bool.and_eq_true, Bool.or_eq_true, Bool.or_eq_false_iff, Bool.and_eq_false_imp, strOf_toList, Decidable.not_not] at h1)
  ·skip
   rw [if_pos h1, ← hl] at hs
   refine AW.region ?_
   refine AO.op (O.move rfl rfl) rfl rfl rfl ?_
   refine AO.op (O.move rfl rfl) rfl rfl rfl ?_
   refine AO.op (O.move rfl rfl) rfl rfl rfl ?_
   refine AO.op (O.shrK 8 256 rfl rfl rfl (by rfl) (by rfl)) rfl rfl rfl ?_
   refine AO.op (O.conv rfl rfl wU8any) rfl rfl rfl ?_
   refine AO.opB (O.buildSlice rfl rfl rfl (by rfl) (by rfl) (by rfl) (by rfl)) rfl rfl rfl ?_
   intro B1
   refine AO.g ?_
   (refine G.freezeSl 0 24 rfl rfl ⟨Nat.le_refl _, by unfold maxLen; omega⟩ ?_)
   refine G.unfull 24 rfl ?_
   refine AO.u ?_
   dsimp only [List.eraseIdx]
   (refine AO.append' (i := 0) rfl rfl rfl rfl (by rfl) (by rfl) rfl rfl rfl (by exact SrcA.ro TyD.ax (by rfl) (Nat.le_of_ble_eq_true rfl)) (by rfl) (by (unfold maxLen; omega)) (by omega) (by (dsimp only [List.set, List.cons_append, List.nil_append, List.take, List.drop]; done)) (fun _ => by (dsimp only [List.set]; done)) ?_)
   intro V2 hV2
   refine AO.op (O.assign rfl rfl) rfl rfl rfl ?_
   refine AO.nil ?_
   refine AQ.blockN ?_
   refine AQ.thenN ?_
   refine AW.region ?_
   refine AO.op (O.move rfl rfl) rfl rfl rfl ?_
   refine AO.op (O.sub rfl rfl rfl (by exact wI64 (by omega))) rfl rfl rfl ?_
   refine AO.op (O.assign rfl rfl) rfl rfl rfl ?_
   refine AO.nil ?_
   have hr : l.length + 1 = (fromTo n (2 + 1)).length := by rw [hs, List.length_append]; rfl
   have hr2 : bytesA l ++ [.val (.int .u8 ((u8 (n / 256)).toNat : Int))] = bytesA (fromTo n (2 + 1)) := by rw [hs, bytesA_snoc]
   refine AQ.loopKN _ _ _ (by omega) (⟨3, _, fromTo n (2 + 1), by omega, ‹_›, rfl, by omega, rfl, rfl, by rw [← hr, ← hr2]⟩) (by repeat (first | exact envNil | refine envCons rfl ?_)) (by repeat (first | exact envNil | refine envCons rfl ?_)) (by repeat (first | exact subPnil | refine subPcons 0 rfl ?_))
  ·skip
   rw [if_neg (by omega), List.append_nil, ← hl] at hs
   refine AW.skip ?_
   refine AQ.blockN ?_
   refine AQ.thenN ?_
   refine AW.region ?_
   refine AO.op (O.move rfl rfl) rfl rfl rfl ?_
   refine AO.op (O.sub rfl rfl rfl (by exact wI64 (by omega))) rfl rfl rfl ?_
   refine AO.op (O.assign rfl rfl) rfl rfl rfl ?_
   refine AO.nil ?_
   refine AQ.loopKN _ _ _ (by omega) (⟨3, V, l, by omega, hV, hs.symm, by omega, rfl, rfl, rfl⟩) (by repeat (first | exact envNil | refine envCons rfl ?_)) (by repeat (first | exact envNil | refine envCons rfl ?_)) (by repeat (first | exact subPnil | refine subPcons 0 rfl ?_))
 ·skip
  have hs := fromTo_succ n (k := 3) (p := 1) rfl
  have hd : 0 ≤ n / 1 := Int.ediv_nonneg hn.1 (by decide)
  refine AW.seq ?_
  refine AW.seq ?_
  refine AW.region ?_
  refine AO.op (O.move rfl rfl) rfl rfl rfl ?_
  refine AO.op (O.geq rfl rfl rfl (by exact bTrue (by omega))) rfl rfl rfl ?_
  refine AO.nil ?_
  refine AQ.thenN ?_
  refine AW.condT rfl ?_
  refine AW.skip ?_
  refine AQ.thenN ?_
  refine AW.seq ?_
  refine AW.block ?_
  refine AW.seq ?_
  refine AW.region ?_
  refine AO.op (O.move rfl rfl) rfl rfl rfl ?_
  refine AO.op (O.move rfl rfl) rfl rfl rfl ?_
  refine AO.op (O.shrK 0 1 rfl rfl rfl (by rfl) (by rfl)) rfl rfl rfl ?_
  refine AO.op (O.gtr rfl rfl rfl (by rfl)) rfl rfl rfl ?_
  refine AO.nil ?_
  refine AQ.thenN ?_
  refine AW.split rfl (fun h1 => ?_) (fun h1 => ?_) <;> (try simp only [decide_eq_true_eq, decide_eq_false_iff_not, beq_iff_eq, beq_eq_false_iff_ne, bne_iff_ne, bne_eq_false_iff_eq, Bool.not_eq_true', Bool.not_eq_false', Bool.not_eq_true, Bool.not_eq_false, ne_eq, Int.not_lt, Int.not_le, Bool.and_eq_true, Bool.or_eq_true, Bool.or_eq_false_iff, Bool.and_eq_false_imp, strOf_toList, Decidable.not_not] at h1)
  ·skip
   rw [if_pos h1, ← hl] at hs
   refine AW.region ?_
   refine AO.op (O.move rfl rfl) rfl rfl rfl ?_
   refine AO.op (O.move rfl rfl) rfl rfl rfl ?_
   refine AO.op (O.move rfl rfl) rfl rfl rfl ?_
   refine AO.op (O.shrK 0 1 rfl rfl rfl (by rfl) (by rfl)) rfl rfl rfl ?_
   refine AO.op (O.conv rfl rfl wU8any) rfl rfl rfl ?_
   refine AO.opB (O.buildSlice rfl rfl rfl (by rfl) (by rfl) (by rfl) (by rfl)) rfl rfl rfl ?_
   intro B1
   refine AO.g ?_
   (refine G.freezeSl 0 24 rfl rfl ⟨Nat.le_refl _, by unfold maxLen; omega⟩ ?_)
   refine G.unfull 24 rfl ?_
   refine AO.u ?_
   dsimp only [List.eraseIdx]
   (refine AO.append' (i := 0) rfl rfl rfl rfl (by rfl) (by rfl) rfl rfl rfl (by exact SrcA.ro TyD.ax (by rfl) (Nat.le_of_ble_eq_true rfl)) (by rfl) (by (unfold maxLen; omega)) (by omega) (by (dsimp only [List.set, List.cons_append, List.nil_append, List.take, List.drop]; done)) (fun _ => by (dsimp only [List.set]; done)) ?_)
   intro V2 hV2
   refine AO.op (O.assign rfl rfl) rfl rfl rfl ?_
   refine AO.nil ?_
   refine AQ.blockN ?_
   refine AQ.thenN ?_
   refine AW.region ?_
   refine AO.op (O.move rfl rfl) rfl rfl rfl ?_
   refine AO.op (O.sub rfl rfl rfl (by exact wI64 (by omega))) rfl rfl rfl ?_
   refine AO.op (O.assign rfl rfl) rfl rfl rfl ?_
   refine AO.nil ?_
   have hr : l.length + 1 = (fromTo n (3 + 1)).length := by rw [hs, List.length_append]; rfl
   have hr2 : bytesA l ++ [.val (.int .u8 ((u8 (n / 1)).toNat : Int))] = bytesA (fromTo n (3 + 1)) := by rw [hs, bytesA_snoc]
   refine AQ.loopKN _ _ _ (by omega) (⟨4, _, fromTo n (3 + 1), by omega, ‹_›, rfl, by omega, rfl, rfl, by rw [← hr, ← hr2]⟩) (by repeat (first | exact envNil | refine envCons rfl ?_)) (by repeat (first | exact envNil | refine envCons rfl ?_)) (by repeat (first | exact subPnil | refine subPcons 0 rfl ?_))
  ·skip
   rw [if_neg (by omega), List.append_nil, ← hl] at hs
   refine AW.skip ?_
   refine AQ.blockN ?_
   refine AQ.thenN ?_
   refine AW.region ?_
   refine AO.op (O.move rfl rfl) rfl rfl rfl ?_
   refine AO.op (O.sub rfl rfl rfl (by exact wI64 (by omega))) rfl rfl rfl ?_
   refine AO.op (O.assign rfl rfl) rfl rfl rfl ?_
   refine AO.nil ?_
   refine AQ.loopKN _ _ _ (by omega) (⟨4, V, l, by omega, hV, hs.symm, by omega, rfl, rfl, rfl⟩) (by repeat (first | exact envNil | refine envCons rfl ?_)) (by repeat (first | exact envNil | refine envCons rfl ?_)) (by repeat (first | exact subPnil | refine subPcons 0 rfl ?_))
 ·skip
  refine AW.seq ?_
  refine AW.seq ?_
  refine AW.region ?_
  refine AO.op (O.move rfl rfl) rfl rfl rfl ?_
  refine AO.op (O.geq rfl rfl rfl (by exact bFalse (by omega))) rfl rfl rfl ?_
  refine AO.nil ?_
  refine AQ.thenN ?_
  refine AW.condF rfl ?_
  refine AW.exit ?_
  refine AQ.thenX ?_
  refine AQ.loopX ?_
  refine AQ.blockX rfl ?_
  refine AQ.thenN ?_
  refine AW.seq ?_
  refine AW.region ?_
  refine AO.op (O.move rfl rfl) rfl rfl rfl ?_
  refine AO.op (O.assign rfl rfl) rfl rfl rfl ?_
  refine AO.nil ?_
  refine AQ.thenN ?_
  refine AW.ret ?_
  refine AQ.g ?_
  refine G.freezeRow 0 rfl [2] (by repeat (first | exact frNil | refine frCons rfl ?_)) ?_
  refine AQ.u ?_
  try dsimp only [List.map, List.eraseIdx, List.cons_append, List.nil_append]
  refine AQ.ret1 rfl rfl ⟨_, List.nil_sublist _, .nil⟩ (⟨by rw [hl]; rfl, rfl⟩)
 skip
end Go.Proofs.YtoonnnifelnaiaaGreatDoor.By

namespace Go.Proofs.YtoonnnifelnaiaaGreatDoor.A
open Go.RowKit L
set_option linter.unusedVariables false
set_option maxRecDepth 20000
set_option linter.unusedSimpArgs false
section
variable {Γ : Cx} {P : Program} {Q : Exit → Act → World → Prop} {E : Env} {H : List HE} {N : Nat} {o : Oper} {ops : Array Oper} {rest : List Oper}
/-- x[l:h] of a slice that is read only, its length told. -/
theorem O.sliceLHm {m : Nat} {T : Nat} {x y y' : Operand} {full : Bool} {n : Nat} {l h : Nat} {kk kk' : IntKind} {z z' : Int} {xs ys : List AV} {U sz bs : Nat} {zz : Value} [hs : TyS P T U sz bs zz] (ho : o.op = .slice T x (some y) (some y') none) (hx : ev E x = some (.ro full n xs)) (hy : ev E y = some (.val (.int kk z))) (hy' : ev E y' = some (.val (.int kk' z')))
  (hz : z = (l : Int)) (hz' : z' = (h : Int)) (hlh : l ≤ h) (hhn : h ≤ n) (hm : h - l = m) (hys : (xs.drop (l * sz)).take (m * sz) = ys) : OpW P N o E H (Is (.ro false m ys)) := by
 subst hm
 exact O.sliceLH ho hx hy hy' hz hz' hlh hhn hys
end
end Go.Proofs.YtoonnnifelnaiaaGreatDoor.A

namespace Go.Proofs.YtoonnnifelnaiaaGreatDoor.A
open Go.RowKit L
set_option linter.unusedVariables false
set_option maxRecDepth 20000
set_option linter.unusedSimpArgs false

section
variable {P : Program} {ops : Array Oper} {N : Nat}
def alAt (als : List Al) (i : Nat) : Option Al := als.find? fun al => Nat.beq al.i i
def isAl (als : List Al) (i : Nat) : Bool := (alAt als i).isSome
theorem alAt_mem {als : List Al} (hn : (als.map Al.i).Nodup) {al : Al} (h : al ∈ als) : alAt als al.i = some al := by
 induction als with
 | nil => cases h
 | cons a r ih =>
  rw [List.map_cons, List.nodup_cons] at hn
  unfold alAt
  rw [List.find?_cons]
  rcases List.mem_cons.1 h with rfl | h
  ·simp
  ·have hne : Nat.beq a.i al.i = false := by
    cases hb : Nat.beq a.i al.i with
    | false => rfl
    | true => exact absurd (List.mem_map.2 ⟨al, h, (Nat.eq_of_beq_eq_true hb).symm⟩) hn.1
   rw [hne]; exact ih hn.2 h
def upd (ea : Nat → Option Nat) (i : Nat) (v : Option Nat) : Nat → Option Nat := fun k => if k = i then v else ea k
theorem upd_same (ea : Nat → Option Nat) (i : Nat) (v : Option Nat) : upd ea i v i = v := if_pos rfl
theorem upd_other (ea : Nat → Option Nat) {i k : Nat} (v : Option Nat) (h : k ≠ i) : upd ea i v k = ea k := if_neg h
def early (als : List Al) (ea : Nat → Option Nat) : List HE := als.flatMap fun al => al.hs (ea al.i)
theorem early_congr {als : List Al} {ea ea' : Nat → Option Nat} (h : ∀ al ∈ als, ea al.i = ea' al.i) : early als ea = early als ea' := by
 induction als with
 | nil => rfl
 | cons a r ih =>
  unfold early at ih ⊢
  rw [List.flatMap_cons, List.flatMap_cons, h a (List.mem_cons_self ..), ih fun al hal => h al (List.mem_cons_of_mem _ hal)]
theorem early_set {als : List Al} (hn : (als.map Al.i).Nodup) {al : Al} (hm : al ∈ als) {ea : Nat → Option Nat} (b : Nat) (h : ea al.i = none) : (early als (upd ea al.i (some b))).Perm (al.he b :: early als ea) := by
 induction als with
 | nil => cases hm
 | cons a r ih =>
  rw [List.map_cons, List.nodup_cons] at hn
  rcases List.mem_cons.1 hm with rfl | hm
  ·have e : early r (upd ea al.i (some b)) = early r ea := early_congr fun x hx => upd_other _ _ fun e => hn.1 (List.mem_map.2 ⟨x, hx, e⟩)
   show (al.hs (upd ea al.i (some b) al.i) ++ early r (upd ea al.i (some b))).Perm (al.he b :: (al.hs (ea al.i) ++ early r ea))
   rw [upd_same, h, e]; exact .refl _
  ·have hne : a.i ≠ al.i := fun e => hn.1 (List.mem_map.2 ⟨al, hm, e.symm⟩)
   show (a.hs (upd ea al.i (some b) a.i) ++ early r (upd ea al.i (some b))).Perm (al.he b :: (a.hs (ea a.i) ++ early r ea))
   rw [upd_other _ _ hne]
   exact ((ih hn.2 hm).append_left _).trans List.perm_middle
theorem early_clear {als : List Al} (hn : (als.map Al.i).Nodup) {al : Al} (hm : al ∈ als) {ea : Nat → Option Nat} {b : Nat} (h : ea al.i = some b) : (early als ea).Perm (al.he b :: early als (upd ea al.i none)) := by
 have e : ea = upd (upd ea al.i none) al.i (some b) := by
  funext k
  by_cases hk : k = al.i
  ·subst hk; rw [upd_same]; exact h
  ·rw [upd_other _ _ hk, upd_other _ _ hk]
 have := early_set hn hm (ea := upd ea al.i none) b (upd_same _ _ _)
 rwa [← e] at this
def AB (P : Program) (N : Nat) (ops : Array Oper) (als : List Al) (Hs : List HE) (K : Env → List HE → Prop) : List (Nat × Bool) → Env → List HE → Prop
 | [], E, H => K E H
 | (i, true) :: r, E, H => match alAt als i with
  | some al => ∀ b, AB P N ops als Hs K r ((al.d, .val (.pointer (some ⟨b, 0, none⟩))) :: E) (al.he b :: H)
  | none => ∃ o, ops[i]? = some o ∧ ∀ w0 R0, AO ⟨w0, footOf H, R0, N⟩ P ops (QS ⟨w0, footOf H, R0, N⟩ o.dst (fun v H' => AB P N ops als Hs K r (putE o.dst v E) H')) [o] (rst E (o.looksAt ops)) H
 | (i, false) :: r, E, H => ∃ o d v, ops[i]? = some o ∧ o.dst = some d ∧ d < N ∧ OpF P N ops o (rst E (o.looksAt ops)) Hs (Is v) ∧ AB P N ops als Hs K r ((d, v) :: E) H

/-- One operation ahead of another. -/
def ordPairB (ops : Array Oper) (ia : Nat → Bool) (an : List (List Nat)) (i : Nat) (b : Bool) (j : Nat) (c : Bool) : Bool :=
 match ops[i]?, ops[j]? with
 | some oi, some oj =>
  let waits := oj.after.any fun e => Region.binds .any e && e.on == i
  let anc := (an.getD j []).contains i
  (i != j) && (!b || anc || ia j) &&
  (match oj.dst with
   | some d => bif c && !ia j then (!((oi.looksAt ops).contains d || oi.dst == some d)) || anc else !(oi.looksAt ops).contains d && oi.dst != some d
   | none => c && !ia j) &&
  (match oi.dst with
   | some d => !(oj.looksAt ops).contains d || waits
   | none => true)
 | _, _ => false
def ordPairsB (ops : Array Oper) (ia : Nat → Bool) (an : List (List Nat)) : List (Nat × Bool) → Bool
 | [] => true
 | (i, b) :: r => (b || (match ops[i]? with | some o => (match o.dst with | some d => !(o.looksAt ops).contains d | none => false) | none => false)) && r.all (fun q => ordPairB ops ia an i b q.1 q.2) && ordPairsB ops ia an r
def ordOkB (ops : Array Oper) (ia : Nat → Bool) (ord : List (Nat × Bool)) : Bool :=
 ((List.range ops.size).all fun i => (ord.map Prod.fst).contains i) && (ord.all fun q => decide (q.1 < ops.size)) &&
 ((List.range ops.size).all fun i => (ops[i]?).all fun o => o.after.all fun e => !Region.binds .any e || decide (e.on < i)) && (ord.all fun q => !ia q.1 || q.2) && ordPairsB ops ia (ancs ops.toList []) ord

theorem ordPairsB_app {ia : Nat → Bool} {an : List (List Nat)} : ∀ {pre r : List (Nat × Bool)}, ordPairsB ops ia an (pre ++ r) = true → ordPairsB ops ia an r = true ∧ ∀ q ∈ pre, ∀ s ∈ r, ordPairB ops ia an q.1 q.2 s.1 s.2 = true
 | [], r, h => ⟨h, fun q hq => by cases hq⟩
 | (i, b) :: pre, r, h => by
  rw [List.cons_append, ordPairsB] at h
  simp only [Bool.and_eq_true, List.all_eq_true] at h
  obtain ⟨h1, h2⟩ := ordPairsB_app h.2
  refine ⟨h1, fun q hq s hs => ?_⟩
  rcases List.mem_cons.1 hq with rfl | hq
  ·exact h.1.2 s (List.mem_append_right _ hs)
  ·exact h2 q hq s hs

structure PairOkB (ops : Array Oper) (ia : Nat → Bool) (an : List (List Nat)) (i : Nat) (b : Bool) (oi : Oper) (j : Nat) (c : Bool) (oj : Oper) : Prop where
 ne : i ≠ j
 main : b = true → ia j = false → i ∈ an.getD j []
 flt : c = false ∨ ia j = true → ∃ d, oj.dst = some d ∧ d ∉ oi.looksAt ops ∧ oi.dst ≠ some d
 mn : c = true → ia j = false → ∀ d, oj.dst = some d → (d ∈ oi.looksAt ops ∨ oi.dst = some d) → i ∈ an.getD j []
 reads : ∀ d, oi.dst = some d → d ∈ oj.looksAt ops → ∃ e ∈ oj.after, Region.binds .any e = true ∧ e.on = i
theorem pairOkB {ia : Nat → Bool} {an : List (List Nat)} {i j : Nat} {b c : Bool} {oi oj : Oper} (h : ordPairB ops ia an i b j c = true) (hi : ops[i]? = some oi) (hj : ops[j]? = some oj) : PairOkB ops ia an i b oi j c oj := by
 unfold ordPairB at h
 rw [hi, hj] at h
 simp only [Bool.and_eq_true, bne_iff_ne, ne_eq] at h
 obtain ⟨⟨⟨h1, h2⟩, h3⟩, h4⟩ := h
 refine ⟨h1, fun hb hj => ?_, fun hc => ?_, fun hc hj d hd hm => ?_, fun d hd hm => ?_⟩
 ·subst hb; simpa [hj] using h2
 ·have hcj : (c && !ia j) = false := by rcases hc with hc | hc <;> simp [hc]
  cases hd : oj.dst with
  | none => rw [hd] at h3; simp only [hcj] at h3; cases h3
  | some d =>
   rw [hd] at h3
   simp only [hcj, cond_false] at h3
   simp at h3
   exact ⟨d, rfl, h3.1, h3.2⟩
 ·subst hc
  have hcj : (true && !ia j) = true := by simp [hj]
  rw [hd] at h3
  simp only [hcj, cond_true] at h3
  simp at h3
  rcases h3 with h3 | h3
  ·rcases hm with hm | hm
   ·exact absurd hm h3.1
   ·exact absurd hm h3.2
  ·exact h3
 ·rw [hd] at h4
  simp only [Bool.or_eq_true, Bool.not_eq_true', List.contains_eq_mem, decide_eq_false_iff_not] at h4
  rcases h4 with h4 | h4
  ·exact absurd hm h4
  ·obtain ⟨x, hx, hx2⟩ := any_mem h4
   simp only [Bool.and_eq_true, beq_iff_eq] at hx2
   exact ⟨x, hx, hx2.1, hx2.2⟩

/-- The state on the way. -/
structure NB (P : Program) (Γ : Cx) (ops : Array Oper) (als : List Al) (Hs : List HE) (K : Env → List HE → Prop) (ord : List (Nat × Bool)) (listed : Array Bool) (A : Act) (W : World) (pre ms : List (Nat × Bool)) (Pd : List Nat) (ea : Nat → Option Nat) (E : Env) (H : List HE) (R : Nat → Prop) : Prop where
 size : listed.size = ops.size
 closed : Closed ops listed
 part : ∀ i, i < ops.size → (listed.getD i false = false ↔ (i ∈ Pd ∨ i ∈ ms.map Prod.fst) ∧ ea i = none)
 ord : ord = pre ++ ms
 pdp : ∀ i ∈ Pd, (i, false) ∈ pre
 am : AB P Γ.N ops als Hs K ms E H
 pend : ∀ i ∈ Pd, ∃ o d v, ops[i]? = some o ∧ o.dst = some d ∧ d < Γ.N ∧ look E d = some v ∧ OpF P Γ.N ops o (rst E (o.looksAt ops)) Hs (Is v)
 rels : RelS Γ R (H ++ (early als ea ++ Hs)) W
 eal : ∀ i b, ea i = some b → ∃ al ∈ als, al.i = i ∧ (i, true) ∈ ms ∧ A.eval (.tmp al.d) = .pointer (some ⟨b, 0, none⟩)
 defers : A.defers = []
 tmps : A.tmps.size = Γ.N
 act : ∀ t v, look E t = some v → (∀ i ∈ Pd, ∀ o, ops[i]? = some o → o.dst ≠ some t) → (∀ al ∈ als, ea al.i ≠ none → t ≠ al.d) → RelV R W v (A.eval (.tmp t))

variable {Γ : Cx} {als : List Al} {Hs : List HE} {K : Env → List HE → Prop} {ord : List (Nat × Bool)}
def alsOk (P : Program) (N : Nat) (ops : Array Oper) (als : List Al) : Prop := (als.map Al.i).Nodup ∧ ∀ al ∈ als, al.ok P N ops

/-- What reads is pending as soon as it may run. -/
theorem NB.absorb {listed : Array Bool} {A : Act} {W : World} {R : Nat → Prop} (hok : ordPairsB ops (isAl als) (ancs ops.toList []) ord = true) (hals : alsOk P Γ.N ops als) : ∀ (ms pre : List (Nat × Bool)) (Pd : List Nat) (ea : Nat → Option Nat) (E : Env) (H : List HE), NB P Γ ops als Hs K ord listed A W pre ms Pd ea E H R →
  ∃ pre' ms' Pd' ea' E' H', NB P Γ ops als Hs K ord listed A W pre' ms' Pd' ea' E' H' R ∧ (ms' = [] ∨ ∃ m r, ms' = (m, true) :: r ∧ ea' m = none)
 | [], pre, Pd, ea, E, H, h => ⟨pre, [], Pd, ea, E, H, h, .inl rfl⟩
 | (m, true) :: r, pre, Pd, ea, E, H, h => by
  cases hea : ea m with
  | none => exact ⟨pre, _, Pd, ea, E, H, h, .inr ⟨m, r, rfl, hea⟩⟩
  | some b =>
   obtain ⟨al, halm, rfl, -, hpt⟩ := h.eal m b hea
   have hfa : alAt als al.i = some al := alAt_mem hals.1 halm
   have hisal : isAl als al.i = true := by unfold isAl; rw [hfa]; rfl
   obtain ⟨oa, ho, hd, hN, hg, hop⟩ := hals.2 al halm
   have ham := h.am
   rw [AB, hfa] at ham
   have hord := h.ord
   have hq := ordPairsB_app (pre := pre) (r := (al.i, true) :: r) (by rw [← hord]; exact hok)
   have hself : ∀ i ∈ Pd, i ≠ al.i := fun i hi e => by
    have := pairOkB (hq.2 _ (h.pdp i hi) (al.i, true) (List.mem_cons_self ..)) (by rw [e]; exact ho) ho
    exact this.ne e
   have hp : ∀ i ∈ Pd, ∀ oi, ops[i]? = some oi → al.d ∉ oi.looksAt ops ∧ oi.dst ≠ some al.d := fun i hi oi hoi => by
    have := pairOkB (hq.2 _ (h.pdp i hi) (al.i, true) (List.mem_cons_self ..)) hoi ho
    obtain ⟨d', h1, h2, h3⟩ := this.flt (.inr hisal)
    rw [hd] at h1
    cases h1
    exact ⟨h2, h3⟩
   have hnr : al.i ∉ r.map Prod.fst := fun hm => by
    obtain ⟨⟨j, c⟩, hq3, hji⟩ := List.mem_map.1 hm
    have h9 := (ordPairsB_app (pre := pre ++ [(al.i, true)]) (r := r) (by rw [List.append_assoc, List.singleton_append, ← hord]; exact hok)).2 (al.i, true) (by simp) _ hq3
    simp only at hji
    subst hji
    exact (pairOkB h9 ho ho).ne rfl
   refine NB.absorb hok hals r (pre ++ [(al.i, true)]) Pd (upd ea al.i none) ((al.d, .val (.pointer (some ⟨b, 0, none⟩))) :: E) (al.he b :: H) ⟨h.size, h.closed, fun i hi => ?_, by rw [hord]; simp, fun i hi => List.mem_append_left _ (h.pdp i hi), ham b, fun i hi => ?_, ?_, fun i b' hb' => ?_, h.defers, h.tmps, fun t x ht hpd hne => ?_⟩
   ·rw [h.part i hi]
    simp only [List.map_cons, List.mem_cons]
    by_cases hia : i = al.i
    ·subst hia
     rw [upd_same, hea]
     constructor
     ·rintro ⟨_, h2⟩; cases h2
     ·rintro ⟨h1 | h1, _⟩
      ·exact absurd rfl (hself _ h1)
      ·exact absurd h1 hnr
    ·rw [upd_other _ _ hia]
     refine and_congr_left fun _ => ?_
     constructor
     ·rintro (h1 | h1 | h1)
      ·exact .inl h1
      ·exact absurd h1 hia
      ·exact .inr h1
     ·rintro (h1 | h1)
      ·exact .inl h1
      ·exact .inr (.inr h1)
   ·obtain ⟨oi, di, vi, h1, h2, h3, h4, h5⟩ := h.pend i hi
    obtain ⟨h6, h7⟩ := hp i hi oi h1
    refine ⟨oi, di, vi, h1, h2, h3, ?_, by rw [rst_skip h6]; exact h5⟩
    rw [look_skip (fun e => h7 (by rw [h2, e]))]; exact h4
   ·refine h.rels.perm ?_
    have h1 := early_clear hals.1 halm hea
    show (al.he b :: (H ++ (early als (upd ea al.i none) ++ Hs))).Perm (H ++ (early als ea ++ Hs))
    refine (List.perm_middle (a := al.he b) (l₁ := H)).symm.trans ?_
    exact ((h1.symm.append_right Hs).append_left H)
   ·by_cases hia : i = al.i
    ·subst hia; rw [upd_same] at hb'; cases hb'
    ·rw [upd_other _ _ hia] at hb'
     obtain ⟨al', h1, h2, h3, h4⟩ := h.eal i b' hb'
     refine ⟨al', h1, h2, ?_, h4⟩
     rcases List.mem_cons.1 h3 with h3 | h3
     ·cases h3; exact absurd rfl hia
     ·exact h3
   ·by_cases hdt : al.d = t
    ·subst hdt
     rw [look_here] at ht
     cases ht
     rw [hpt]; exact .val _
    ·rw [look_skip hdt] at ht
     refine h.act t x ht hpd fun al' hal' hne' e => ?_
     by_cases hia : al'.i = al.i
     ·have h1 := alAt_mem hals.1 hal'
      rw [hia, hfa] at h1
      cases h1
      exact hdt e.symm
     ·exact hne al' hal' (by rw [upd_other _ _ hia]; exact hne') e
 | (j, false) :: r, pre, Pd, ea, E, H, h => by
  obtain ⟨o, d, v, ho, hd, hN, hop, ham⟩ := h.am
  have hord := h.ord
  have hq := ordPairsB_app (pre := pre) (r := (j, false) :: r) (by rw [← hord]; exact hok)
  have hself : d ∉ o.looksAt ops := by
   have := hq.1
   rw [ordPairsB] at this
   simp only [Bool.and_eq_true, ho, hd, Bool.false_or] at this
   simpa using this.1.1
  have hp : ∀ i ∈ Pd, ∀ oi, ops[i]? = some oi → d ∉ oi.looksAt ops ∧ oi.dst ≠ some d := fun i hi oi hoi => by
   have := pairOkB (hq.2 _ (h.pdp i hi) (j, false) (List.mem_cons_self ..)) hoi ho
   obtain ⟨d', h1, h2, h3⟩ := this.flt (.inl rfl)
   rw [hd] at h1
   cases h1
   exact ⟨h2, h3⟩
  refine NB.absorb hok hals r (pre ++ [(j, false)]) (j :: Pd) ea ((d, v) :: E) H ⟨h.size, h.closed, fun i hi => ?_, by rw [hord]; simp, fun i hi => ?_, ham, fun i hi => ?_, h.rels, fun i b hb => ?_, h.defers, h.tmps, fun t x ht hpd hea => ?_⟩
  ·rw [h.part i hi]
   simp only [List.map_cons, List.mem_cons]
   refine and_congr_left fun _ => ?_
   constructor
   ·rintro (h | h | h)
    ·exact .inl (.inr h)
    ·exact .inl (.inl h)
    ·exact .inr h
   ·rintro ((h | h) | h)
    ·exact .inr (.inl h)
    ·exact .inl h
    ·exact .inr (.inr h)
  ·rcases List.mem_cons.1 hi with rfl | hi
   ·simp
   ·exact List.mem_append_left _ (h.pdp i hi)
  ·rcases List.mem_cons.1 hi with rfl | hi
   ·exact ⟨o, d, v, ho, hd, hN, look_here, by rw [rst_skip hself]; exact hop⟩
   ·obtain ⟨oi, di, vi, h1, h2, h3, h4, h5⟩ := h.pend i hi
    obtain ⟨h6, h7⟩ := hp i hi oi h1
    refine ⟨oi, di, vi, h1, h2, h3, ?_, by rw [rst_skip h6]; exact h5⟩
    rw [look_skip (fun e => h7 (by rw [h2, e]))]; exact h4
  ·obtain ⟨al, h0, h9, h1, h2⟩ := h.eal i b hb
   refine ⟨al, h0, h9, ?_, h2⟩
   rcases List.mem_cons.1 h1 with h1 | h1
   ·cases h1
   ·exact h1
  ·have hne : d ≠ t := fun e => hpd j (List.mem_cons_self ..) o ho (by rw [hd, e])
   rw [look_skip hne] at ht
   exact h.act t x ht (fun i hi => hpd i (List.mem_cons_of_mem _ hi)) hea

theorem NB.reads {listed : Array Bool} {A : Act} {W : World} {R : Nat → Prop} {pre ms : List (Nat × Bool)} {Pd : List Nat} {ea : Nat → Option Nat} {E : Env} {H : List HE} (hok : ordPairsB ops (isAl als) (ancs ops.toList []) ord = true) (hals : alsOk P Γ.N ops als) (h : NB P Γ ops als Hs K ord listed A W pre ms Pd ea E H R)
  {i : Nat} {b : Bool} {o : Oper} (ho : ops[i]? = some o) (hdeps : ∀ e ∈ o.after, Region.binds .any e = true → listed.getD e.on false = true) (hi : (i, b) ∈ pre ∧ i ∈ Pd ∧ b = false ∨ ∃ r, ms = (i, b) :: r ∧ isAl als i = false) : RelA Γ.N R W (rst E (o.looksAt ops)) A := by
 refine ⟨h.defers, h.tmps, fun t v ht => ?_⟩
 obtain ⟨htl, ht⟩ := look_rst ht
 have hnal : ∀ al ∈ als, ea al.i ≠ none → t ≠ al.d := fun al halm hea e => by
  obtain ⟨oa, hoa, hda, -⟩ := hals.2 al halm
  have hisal : isAl als al.i = true := by unfold isAl; rw [alAt_mem hals.1 halm]; rfl
  obtain ⟨b', hb'⟩ := Option.ne_none_iff_exists'.1 hea
  obtain ⟨_, -, -, hmem, -⟩ := h.eal _ b' hb'
  have key : ordPairB ops (isAl als) (ancs ops.toList []) i b al.i true = true → False := fun hp => by
   obtain ⟨d', h1, h2, -⟩ := (pairOkB hp ho hoa).flt (.inr hisal)
   rw [hda] at h1; cases h1
   exact h2 (e ▸ htl)
  rcases hi with ⟨hip, -, -⟩ | ⟨r, hms, hne⟩
  ·exact key ((ordPairsB_app (pre := pre) (r := ms) (by rw [← h.ord]; exact hok)).2 _ hip _ hmem)
  ·rw [hms] at hmem
   rcases List.mem_cons.1 hmem with h9 | h9
   ·cases h9; rw [hisal] at hne; cases hne
   ·exact key ((ordPairsB_app (pre := pre ++ [(i, b)]) (r := r) (by have := h.ord; rw [List.append_assoc, List.singleton_append, ← hms, ← this]; exact hok)).2 (i, b) (by simp) _ h9)
 refine h.act t v ht (fun k hk ok hok' hdk => ?_) hnal
 have hkp := h.pdp k hk
 have hkn : ea k = none := Classical.byContradiction fun hne => by
  obtain ⟨b', hb'⟩ := Option.ne_none_iff_exists'.1 hne
  obtain ⟨al, halm, rfl, hmem, -⟩ := h.eal _ b' hb'
  obtain ⟨oa, hoa, hda, -⟩ := hals.2 al halm
  exact (pairOkB ((ordPairsB_app (pre := pre) (r := ms) (by rw [← h.ord]; exact hok)).2 _ hkp _ hmem) hok' hoa).ne rfl
 have hkf : listed.getD k false = false := (h.part k (Array.getElem?_eq_some_iff.1 hok').1).2 ⟨.inl hk, hkn⟩
 have direct : ordPairB ops (isAl als) (ancs ops.toList []) k false i b = true → False := fun hp => by
  obtain ⟨e, he, hb, hon⟩ := (pairOkB hp hok' ho).reads t hdk htl
  have := hdeps e he hb
  rw [hon, hkf] at this; cases this
 rcases hi with ⟨hip, hiP, rfl⟩ | ⟨r, hms, -⟩
 ·-- both ahead
  obtain ⟨p1, p2, hp12⟩ := List.append_of_mem hkp
  have hord := h.ord
  rw [hp12, List.append_assoc] at hord
  rw [hp12] at hip
  rcases List.mem_append.1 hip with hip | hip
  ·-- i ahead of k
   have hq := ordPairsB_app (pre := p1) (by rw [← hord]; exact hok)
   have := pairOkB (hq.2 _ hip (k, false) (List.mem_cons_self ..)) ho hok'
   obtain ⟨d', h1, h2, -⟩ := this.flt (.inl rfl)
   rw [hdk] at h1; cases h1
   exact h2 htl
  ·rcases List.mem_cons.1 hip with he | hip
   ·cases he
    -- itself
    have hq := (ordPairsB_app (pre := p1) (by rw [← hord]; exact hok)).1
    rw [List.cons_append, ordPairsB] at hq
    simp only [Bool.and_eq_true] at hq
    obtain rfl : o = ok := by rw [ho] at hok'; exact Option.some.inj hok'
    have := hq.1.1
    rw [ho] at this
    simp only [hdk, Bool.false_or] at this
    simp at this
    exact this htl
   ·rw [show p1 ++ ((k, false) :: p2 ++ ms) = (p1 ++ [(k, false)]) ++ (p2 ++ ms) by simp] at hord
    have hq := ordPairsB_app (pre := p1 ++ [(k, false)]) (by rw [← hord]; exact hok)
    exact direct (hq.2 (k, false) (by simp) (i, false) (List.mem_append_left _ hip))
 ·have hq := ordPairsB_app (pre := pre) (r := ms) (by rw [← h.ord]; exact hok)
  exact direct (hq.2 _ hkp (i, b) (by rw [hms]; exact List.mem_cons_self ..))

/-! One operation. -/
theorem AB.op {i d : Nat} {r : List (Nat × Bool)} {E : Env} {H : List HE} {o : Oper} {v : AV} (ho : ops[i]? = some o) (h : OpW P N o (rst E (o.looksAt ops)) Hs (Is v)) (hw : wantedIs ops (rst E (o.looksAt ops)) o = some true) (hd : o.dst = some d) (hN : Nat.ble (d + 1) N = true) (k : AB P N ops als Hs K r ((d, v) :: E) H) :
  AB P N ops als Hs K ((i, false) :: r) E H := ⟨o, d, v, ho, hd, Nat.le_of_ble_eq_true hN, .run hw h, k⟩
theorem AB.opG {i d : Nat} {r : List (Nat × Bool)} {E : Env} {H : List HE} {o : Oper} {c : Bool} {v : AV} (ho : ops[i]? = some o) (hw : guardIs ops (rst E (o.looksAt ops)) o = some c) (hd : o.dst = some d) (hN : Nat.ble (d + 1) N = true) (h : c = true → OpW P N o (rst E (o.looksAt ops)) Hs (Is v)) (k : AB P N ops als Hs K r ((d, .opt c v) :: E) H) :
  AB P N ops als Hs K ((i, false) :: r) E H := ⟨o, d, _, ho, hd, Nat.le_of_ble_eq_true hN, .opt hw h, k⟩
theorem AB.no {i d : Nat} {r : List (Nat × Bool)} {E : Env} {H : List HE} {o : Oper} (ho : ops[i]? = some o) (hw : wantedIs ops (rst E (o.looksAt ops)) o = some false) (hd : o.dst = some d) (hN : Nat.ble (d + 1) N = true) (k : AB P N ops als Hs K r ((d, .val undef) :: E) H) :
  AB P N ops als Hs K ((i, false) :: r) E H := ⟨o, d, _, ho, hd, Nat.le_of_ble_eq_true hN, .no hw, k⟩
theorem AB.main {i : Nat} {r : List (Nat × Bool)} {E : Env} {H : List HE} (o : Oper) (ho : ops[i]? = some o) (hne : isAl als i = false) (h : ∀ w0 R0, AO ⟨w0, footOf H, R0, N⟩ P ops (QS ⟨w0, footOf H, R0, N⟩ o.dst (fun v H' => AB P N ops als Hs K r (putE o.dst v E) H')) [o] (rst E (o.looksAt ops)) H) :
  AB P N ops als Hs K ((i, true) :: r) E H := by
 have : alAt als i = none := by unfold isAl at hne; exact Option.not_isSome_iff_eq_none.1 (by rw [hne]; simp)
 rw [AB, this]; exact ⟨o, ho, h⟩
theorem AB.box {i : Nat} {r : List (Nat × Bool)} {E : Env} {H : List HE} (al : Al) (he : alAt als i = some al) (k : ∀ b, AB P N ops als Hs K r ((al.d, .val (.pointer (some ⟨b, 0, none⟩))) :: E) (al.he b :: H)) : AB P N ops als Hs K ((i, true) :: r) E H := by rw [AB, he]; exact k
theorem alsOk.nil {P : Program} {N : Nat} {ops : Array Oper} : alsOk P N ops [] := ⟨.nil, fun _ h => by cases h⟩
theorem alsOk.cons {P : Program} {N : Nat} {ops : Array Oper} {al : Al} {als : List Al} (h : al.ok P N ops) (hn : (als.map Al.i).contains al.i = false) (hs : alsOk P N ops als) : alsOk P N ops (al :: als) := by
 refine ⟨?_, fun x hx => ?_⟩
 ·rw [List.map_cons, List.nodup_cons]
  exact ⟨fun hm => (by rw [List.contains_iff_mem.2 hm] at hn; cases hn), hs.1⟩
 ·rcases List.mem_cons.1 hx with e | hx
  ·rw [e]; exact h
  ·exact hs.2 x hx
theorem AB.nil {E : Env} {H : List HE} (h : K E H) : AB P N ops als Hs K [] E H := h
end
end Go.Proofs.YtoonnnifelnaiaaGreatDoor.A

namespace Go.Proofs.YtoonnnifelnaiaaGreatDoor.By
open Go.RowKit L A
set_option linter.unusedVariables false
set_option maxRecDepth 20000
set_option linter.unusedSimpArgs false
attribute [local irreducible] AW AQ AO
abbrev blkA (num : Int) (more : Bool) (sz : Int) : AV := .agg [.val (.int .i64 num), .val (.bool more), .val (.int .i64 sz)]
theorem bsound_fn (num : Int) (more : Bool) (sz : Int) (h : 0 ≤ num ∧ num ≤ 1048575) (hs : 0 ≤ sz ∧ sz ≤ 6) : Sp Tryz.prog 60 [blkA num more sz] [] (Is (.val (.bool true))) := by
 refine Sp.enter Tryz.func60 rfl _ Tryz.ntmps60 rfl (fun w0 R0 => ?_)
 refine AW.seq ?_
 refine AW.region ?_
 refine AO.opB (O.box rfl rfl rfl rfl rfl) rfl rfl rfl ?_
 intro B1
 refine AO.op (O.assign rfl rfl) rfl rfl rfl ?_
 refine AO.nil ?_
 refine AQ.thenN ?_
 refine AW.seq ?_
 refine AW.region ?_
 refine AO.op (O.fieldAddr rfl rfl) rfl rfl rfl ?_
 refine AO.op (O.load rfl rfl (by repeat (exact List.Mem.head _)) (by rfl)) rfl rfl rfl ?_
 refine AO.op (O.geq rfl rfl rfl (by exact bTrue (by omega))) rfl rfl rfl ?_
 refine AO.op (O.move rfl rfl) rfl rfl rfl ?_
 refine AO.op (O.fieldAddr rfl rfl) rfl rfl rfl ?_
 refine AO.op (O.load rfl rfl (by repeat (exact List.Mem.head _)) (by rfl)) rfl rfl rfl ?_
 refine AO.op (O.leq rfl rfl rfl (by exact bTrue (by omega))) rfl rfl rfl ?_
 refine AO.op (O.pickT rfl rfl rfl) rfl rfl rfl ?_
 refine AO.op (O.move rfl rfl) rfl rfl rfl ?_
 refine AO.op (O.fieldAddr rfl rfl) rfl rfl rfl ?_
 refine AO.op (O.load rfl rfl (by repeat (exact List.Mem.head _)) (by rfl)) rfl rfl rfl ?_
 refine AO.op (O.geq rfl rfl rfl (by exact bTrue (by omega))) rfl rfl rfl ?_
 refine AO.op (O.pickT rfl rfl rfl) rfl rfl rfl ?_
 refine AO.op (O.move rfl rfl) rfl rfl rfl ?_
 refine AO.op (O.fieldAddr rfl rfl) rfl rfl rfl ?_
 refine AO.op (O.load rfl rfl (by repeat (exact List.Mem.head _)) (by rfl)) rfl rfl rfl ?_
 refine AO.op (O.leq rfl rfl rfl (by exact bTrue (by omega))) rfl rfl rfl ?_
 refine AO.op (O.pickT rfl rfl rfl) rfl rfl rfl ?_
 refine AO.op (O.assign rfl rfl) rfl rfl rfl ?_
 refine AO.nil ?_
 refine AQ.thenN ?_
 refine AW.ret ?_
 refine AQ.ret1 rfl rfl ⟨_, List.nil_sublist _, .nil⟩ (⟨rfl, rfl⟩)
def szN (sz : Int) : Nat := if sz = 0 then 16 else if sz = 1 then 32 else 64
theorem blen_fn (sz : Int) (hs : 0 ≤ sz ∧ sz ≤ 2) : Sp Tryz.prog 61 [.val (.int .i64 sz)] [] (Is (.val (.int .i64 (szN sz : Nat)))) := by
 have hc : sz = 0 ∨ sz = 1 ∨ sz = 2 := by omega
 have e0 : IntKind.i64.wrap (16 * 2 ^ (min (0 : Int).toNat IntKind.i64.bits)) = ((szN 0 : Nat) : Int) := by decide +kernel
 have e1 : IntKind.i64.wrap (16 * 2 ^ (min (1 : Int).toNat IntKind.i64.bits)) = ((szN 1 : Nat) : Int) := by decide +kernel
 have e2 : IntKind.i64.wrap (16 * 2 ^ (min (2 : Int).toNat IntKind.i64.bits)) = ((szN 2 : Nat) : Int) := by decide +kernel
 rcases hc with rfl | rfl | rfl
 ·refine Sp.enter Tryz.func61 rfl _ Tryz.ntmps61 rfl (fun w0 R0 => ?_)
  refine AW.seq ?_
  refine AW.region ?_
  refine AO.op (O.assign rfl rfl) rfl rfl rfl ?_
  refine AO.nil ?_
  refine AQ.thenN ?_
  refine AW.seq ?_
  refine AW.region ?_
  refine AO.op (O.move rfl rfl) rfl rfl rfl ?_
  refine AO.op (O.shl rfl rfl rfl (by omega) (by exact e0)) rfl rfl rfl ?_
  refine AO.op (O.assign rfl rfl) rfl rfl rfl ?_
  refine AO.nil ?_
  refine AQ.thenN ?_
  refine AW.ret ?_
  refine AQ.ret1 rfl rfl ⟨_, List.nil_sublist _, .nil⟩ (⟨rfl, rfl⟩)
 ·refine Sp.enter Tryz.func61 rfl _ Tryz.ntmps61 rfl (fun w0 R0 => ?_)
  refine AW.seq ?_
  refine AW.region ?_
  refine AO.op (O.assign rfl rfl) rfl rfl rfl ?_
  refine AO.nil ?_
  refine AQ.thenN ?_
  refine AW.seq ?_
  refine AW.region ?_
  refine AO.op (O.move rfl rfl) rfl rfl rfl ?_
  refine AO.op (O.shl rfl rfl rfl (by omega) (by exact e1)) rfl rfl rfl ?_
  refine AO.op (O.assign rfl rfl) rfl rfl rfl ?_
  refine AO.nil ?_
  refine AQ.thenN ?_
  refine AW.ret ?_
  refine AQ.ret1 rfl rfl ⟨_, List.nil_sublist _, .nil⟩ (⟨rfl, rfl⟩)
 ·refine Sp.enter Tryz.func61 rfl _ Tryz.ntmps61 rfl (fun w0 R0 => ?_)
  refine AW.seq ?_
  refine AW.region ?_
  refine AO.op (O.assign rfl rfl) rfl rfl rfl ?_
  refine AO.nil ?_
  refine AQ.thenN ?_
  refine AW.seq ?_
  refine AW.region ?_
  refine AO.op (O.move rfl rfl) rfl rfl rfl ?_
  refine AO.op (O.shl rfl rfl rfl (by omega) (by exact e2)) rfl rfl rfl ?_
  refine AO.op (O.assign rfl rfl) rfl rfl rfl ?_
  refine AO.nil ?_
  refine AQ.thenN ?_
  refine AW.ret ?_
  refine AQ.ret1 rfl rfl ⟨_, List.nil_sublist _, .nil⟩ (⟨rfl, rfl⟩)
theorem szN_in {sz : Int} (h : 0 ≤ sz ∧ sz ≤ 2) : 16 ≤ szN sz ∧ szN sz ≤ 64 := by
 unfold szN; split
 ·omega
 ·split <;> omega
/-- The block with a number; nothing where there is none. -/
theorem cut_yes_fn (body : List UInt8) (i : Nat) (sz : Int) (hs : 0 ≤ sz ∧ sz ≤ 2) (hb : body.length ≤ 300) (hi : i ≤ 1000) (h : hasB body (szN sz) i) :
  Sp Tryz.prog 24 [roB body, .val (.int .i64 (i : Int)), .val (.int .i64 sz)] [] (Is (.tup [roB (cutB body (szN sz) i), .val (.bool (moreB body (szN sz) i)), .val (.int .i64 0)])) := by
 have hn := szN_in hs
 have hblen := blen_fn sz hs
 have hle : i * szN sz ≤ 1000 * 64 := Nat.mul_le_mul hi hn.2
 have hcl := cutB_len body (szN sz) i
 have hx : i = 0 ∧ i * szN sz = 0 ∨ i * szN sz < body.length := by
  rcases h with rfl | h
  ·exact .inl ⟨rfl, Nat.zero_mul _⟩
  ·exact .inr h
 have hmo : moreB body (szN sz) i = decide (i * szN sz + szN sz < body.length) := rfl
 have hcut : ((bytesA body).drop (i * szN sz * 1)).take ((cutB body (szN sz) i).length * 1) = bytesA (cutB body (szN sz) i) := by
  rw [bytesA_part rfl rfl, hcl, cutB, ← List.length_drop, ← List.take_take, List.take_length]
 have hm : (i : Int) * ((szN sz : Nat) : Int) = ((i * szN sz : Nat) : Int) := by rw [Int.natCast_mul]
 generalize hf : i * szN sz = f at *
 generalize moreB body (szN sz) i = mo at *
 generalize cutB body (szN sz) i = cu at *
 generalize szN sz = n at *
 have hmin : (if (i : Int) * (n : Int) + (n : Int) < (body.length : Int) then (i : Int) * (n : Int) + (n : Int) else (body.length : Int)) = ((min (f + n) body.length : Nat) : Int) := by
  rw [hm]; split <;> omega
 have hmd : decide (((min (f + n) body.length : Nat) : Int) < (body.length : Int)) = mo := by
  rw [hmo, Bool.eq_iff_iff, decide_eq_true_eq, decide_eq_true_eq]; omega
 refine Sp.enter Tryz.func24 rfl _ Tryz.ntmps24 rfl (fun w0 R0 => ?_)
 refine AW.seq ?_
 refine AW.region ?_
 refine AO.op (O.assign rfl rfl) rfl rfl rfl ?_
 refine AO.op (O.assign rfl rfl) rfl rfl rfl ?_
 refine AO.op (O.assign rfl rfl) rfl rfl rfl ?_
 refine AO.nil ?_
 refine AQ.thenN ?_
 refine AW.seq ?_
 refine AW.seq ?_
 refine AW.region ?_
 refine AO.op (O.move rfl rfl) rfl rfl rfl ?_
 refine AO.op (O.move rfl rfl) rfl rfl rfl ?_
 refine AO.op (O.build rfl rfl rfl (by rfl)) rfl rfl rfl ?_
 refine AO.op (O.call rfl Tryz.func60 rfl rfl rfl (bsound_fn _ _ _ ⟨by omega, by omega⟩ ⟨by omega, by omega⟩)) rfl rfl rfl ?_
 refine AO.op (O.not rfl rfl (by rfl)) rfl rfl rfl ?_
 refine AO.nil ?_
 refine AQ.thenN ?_
 refine AW.split rfl (fun h15 => ?_) (fun h15 => ?_) <;> (try simp only [decide_eq_true_eq, decide_eq_false_iff_not, beq_iff_eq, beq_eq_false_iff_ne, bne_iff_ne, bne_eq_false_iff_eq, Bool.not_eq_true', Bool.not_eq_false', Bool.not_eq_true, Bool.not_eq_false, ne_eq, Int.not_lt, Int.not_le, Bool.and_eq_true, Bool.or_eq_true, Bool.or_eq_false_iff, Bool.and_eq_false_imp, strOf_toList, Decidable.not_not] at h15)
 ·skip
  exact absurd h15 (by simp)
 ·skip
  refine AW.skip ?_
  refine AQ.thenN ?_
  refine AW.seq ?_
  refine AW.region ?_
  refine AO.op (O.move rfl rfl) rfl rfl rfl ?_
  refine AO.op (O.move rfl rfl) rfl rfl rfl ?_
  refine AO.op (O.call rfl Tryz.func61 rfl rfl rfl (hblen)) rfl rfl rfl ?_
  refine AO.op (O.mul rfl rfl rfl (by exact wI64 (by omega))) rfl rfl rfl ?_
  refine AO.op (O.assign rfl rfl) rfl rfl rfl ?_
  refine AO.nil ?_
  refine AQ.thenN ?_
  refine AW.seq ?_
  refine AW.seq ?_
  refine AW.region ?_
  refine AO.op (O.move rfl rfl) rfl rfl rfl ?_
  refine AO.op (O.move rfl rfl) rfl rfl rfl ?_
  refine AO.op (O.lenR rfl rfl) rfl rfl rfl ?_
  refine AO.op (O.geq rfl rfl rfl (by rfl)) rfl rfl rfl ?_
  refine AO.op (O.move rfl rfl) rfl rfl rfl ?_
  refine AO.opG rfl rfl rfl (fun hp => O.move rfl rfl) ?_
  refine AO.opG rfl rfl rfl (fun hp => O.move rfl rfl) ?_
  refine AO.opG rfl rfl rfl (fun hp => OpW.force 26 rfl (by exact hp) (O.lenR rfl rfl)) ?_
  refine AO.opG rfl rfl rfl (fun hp => OpW.force 25 rfl (by exact hp) (OpW.force 27 rfl (by exact hp) (O.add rfl rfl rfl (by exact wI64 (by omega))))) ?_
  refine AO.opG rfl rfl rfl (fun hp => OpW.force 28 rfl (by exact hp) (O.gtr rfl rfl rfl (by rfl))) ?_
  refine AO.op (O.pickAnd rfl rfl rfl rfl (fun h => by exact h)) rfl rfl rfl ?_
  refine AO.nil ?_
  refine AQ.thenN ?_
  refine AW.split rfl (fun h30 => ?_) (fun h30 => ?_) <;> (try simp only [decide_eq_true_eq, decide_eq_false_iff_not, beq_iff_eq, beq_eq_false_iff_ne, bne_iff_ne, bne_eq_false_iff_eq, Bool.not_eq_true', Bool.not_eq_false', Bool.not_eq_true, Bool.not_eq_false, ne_eq, Int.not_lt, Int.not_le, Bool.and_eq_true, Bool.or_eq_true, Bool.or_eq_false_iff, Bool.and_eq_false_imp, strOf_toList, Decidable.not_not] at h30)
  ·skip
   exfalso; omega
  ·skip
   refine AW.skip ?_
   refine AQ.thenN ?_
   refine AW.seq ?_
   refine AW.region ?_
   refine AO.op (O.move rfl rfl) rfl rfl rfl ?_
   refine AO.op (O.lenR rfl rfl) rfl rfl rfl ?_
   refine AO.op (O.move rfl rfl) rfl rfl rfl ?_
   refine AO.op (O.move rfl rfl) rfl rfl rfl ?_
   refine AO.op (O.call rfl Tryz.func61 rfl rfl rfl (hblen)) rfl rfl rfl ?_
   refine AO.op (O.add rfl rfl rfl (by exact wI64 (by omega))) rfl rfl rfl ?_
   refine AO.op (O.minI rfl rfl rfl hmin) rfl rfl rfl ?_
   refine AO.op (O.assign rfl rfl) rfl rfl rfl ?_
   refine AO.nil ?_
   refine AQ.thenN ?_
   refine AW.seq ?_
   refine AW.region ?_
   refine AO.op (O.move rfl rfl) rfl rfl rfl ?_
   refine AO.op (O.move rfl rfl) rfl rfl rfl ?_
   refine AO.op (O.move rfl rfl) rfl rfl rfl ?_
   refine AO.op (O.sliceLHm (m := cu.length) rfl rfl rfl rfl (l := f) (h := min (f + n) body.length) (by omega) (by omega) (by omega) (by omega) (by omega) (by exact hcut)) rfl rfl rfl ?_
   refine AO.op (O.call rfl Tryz.func49 rfl rfl rfl (clone_fn _ (by omega))) rfl rfl rfl ?_
   refine AO.op (O.move rfl rfl) rfl rfl rfl ?_
   refine AO.op (O.move rfl rfl) rfl rfl rfl ?_
   refine AO.op (O.lenR rfl rfl) rfl rfl rfl ?_
   refine AO.op (O.lss rfl rfl rfl (by assumption)) rfl rfl rfl ?_
   refine AO.op (O.assign rfl rfl) rfl rfl rfl ?_
   refine AO.op (O.assign rfl rfl) rfl rfl rfl ?_
   refine AO.op (O.assign rfl rfl) rfl rfl rfl ?_
   refine AO.nil ?_
   refine AQ.thenN ?_
   refine AW.ret ?_
   refine FnQ.coe (AQ.ret3G rfl (by exact ResAt.tmp rfl) (by exact ResAt.tmp rfl) (by exact ResAt.tmp rfl) ⟨_, List.nil_sublist _, .nil⟩ ⟨rfl, rfl⟩) (Coe.tup (by (repeat (first | exact CoeL.nil | refine CoeL.cons Coe.rfl ?_)); done)) (⟨rfl, rfl⟩)
theorem cut_no_fn (body : List UInt8) (i : Nat) (sz : Int) (hs : 0 ≤ sz ∧ sz ≤ 2) (hb : body.length ≤ 300) (hi : i ≤ 1000) (h : ¬hasB body (szN sz) i) :
  Sp Tryz.prog 24 [roB body, .val (.int .i64 (i : Int)), .val (.int .i64 sz)] [] (Is (.tup [roB [], .val (.bool false), .val (.int .i64 10)])) := by
 have hn := szN_in hs
 have hblen := blen_fn sz hs
 have hle : i * szN sz ≤ 1000 * 64 := Nat.mul_le_mul hi hn.2
 have hx : body.length ≤ i * szN sz ∧ 0 < i * szN sz := by
  have h1 : ¬(i = 0) := fun e => h (.inl e)
  have h2 : ¬(i * szN sz < body.length) := fun e => h (.inr e)
  exact ⟨by omega, Nat.mul_pos (by omega) (by omega)⟩
 have hm : (i : Int) * ((szN sz : Nat) : Int) = ((i * szN sz : Nat) : Int) := by rw [Int.natCast_mul]
 generalize hf : i * szN sz = f at *
 generalize szN sz = n at *
 refine Sp.enter Tryz.func24 rfl _ Tryz.ntmps24 rfl (fun w0 R0 => ?_)
 refine AW.seq ?_
 refine AW.region ?_
 refine AO.op (O.assign rfl rfl) rfl rfl rfl ?_
 refine AO.op (O.assign rfl rfl) rfl rfl rfl ?_
 refine AO.op (O.assign rfl rfl) rfl rfl rfl ?_
 refine AO.nil ?_
 refine AQ.thenN ?_
 refine AW.seq ?_
 refine AW.seq ?_
 refine AW.region ?_
 refine AO.op (O.move rfl rfl) rfl rfl rfl ?_
 refine AO.op (O.move rfl rfl) rfl rfl rfl ?_
 refine AO.op (O.build rfl rfl rfl (by rfl)) rfl rfl rfl ?_
 refine AO.op (O.call rfl Tryz.func60 rfl rfl rfl (bsound_fn _ _ _ ⟨by omega, by omega⟩ ⟨by omega, by omega⟩)) rfl rfl rfl ?_
 refine AO.op (O.not rfl rfl (by rfl)) rfl rfl rfl ?_
 refine AO.nil ?_
 refine AQ.thenN ?_
 refine AW.split rfl (fun h15 => ?_) (fun h15 => ?_) <;> (try simp only [decide_eq_true_eq, decide_eq_false_iff_not, beq_iff_eq, beq_eq_false_iff_ne, bne_iff_ne, bne_eq_false_iff_eq, Bool.not_eq_true', Bool.not_eq_false', Bool.not_eq_true, Bool.not_eq_false, ne_eq, Int.not_lt, Int.not_le, Bool.and_eq_true, Bool.or_eq_true, Bool.or_eq_false_iff, Bool.and_eq_false_imp, strOf_toList, Decidable.not_not] at h15)
 ·skip
  exact absurd h15 (by simp)
 ·skip
  refine AW.skip ?_
  refine AQ.thenN ?_
  refine AW.seq ?_
  refine AW.region ?_
  refine AO.op (O.move rfl rfl) rfl rfl rfl ?_
  refine AO.op (O.move rfl rfl) rfl rfl rfl ?_
  refine AO.op (O.call rfl Tryz.func61 rfl rfl rfl (hblen)) rfl rfl rfl ?_
  refine AO.op (O.mul rfl rfl rfl (by exact wI64 (by omega))) rfl rfl rfl ?_
  refine AO.op (O.assign rfl rfl) rfl rfl rfl ?_
  refine AO.nil ?_
  refine AQ.thenN ?_
  refine AW.seq ?_
  refine AW.seq ?_
  refine AW.region ?_
  refine AO.op (O.move rfl rfl) rfl rfl rfl ?_
  refine AO.op (O.move rfl rfl) rfl rfl rfl ?_
  refine AO.op (O.lenR rfl rfl) rfl rfl rfl ?_
  refine AO.op (O.geq rfl rfl rfl (by exact bTrue (by omega))) rfl rfl rfl ?_
  refine AO.op (O.move rfl rfl) rfl rfl rfl ?_
  refine AO.op (O.move rfl rfl) rfl rfl rfl ?_
  refine AO.op (O.move rfl rfl) rfl rfl rfl ?_
  refine AO.op (O.lenR rfl rfl) rfl rfl rfl ?_
  refine AO.op (O.add rfl rfl rfl (by exact wI64 (by omega))) rfl rfl rfl ?_
  refine AO.op (O.gtr rfl rfl rfl (by exact bTrue (by omega))) rfl rfl rfl ?_
  refine AO.op (O.pickT rfl rfl rfl) rfl rfl rfl ?_
  refine AO.nil ?_
  refine AQ.thenN ?_
  refine AW.split rfl (fun h30 => ?_) (fun h30 => ?_) <;> (try simp only [decide_eq_true_eq, decide_eq_false_iff_not, beq_iff_eq, beq_eq_false_iff_ne, bne_iff_ne, bne_eq_false_iff_eq, Bool.not_eq_true', Bool.not_eq_false', Bool.not_eq_true, Bool.not_eq_false, ne_eq, Int.not_lt, Int.not_le, Bool.and_eq_true, Bool.or_eq_true, Bool.or_eq_false_iff, Bool.and_eq_false_imp, strOf_toList, Decidable.not_not] at h30)
  ·skip
   refine AW.seq ?_
   refine AW.region ?_
   refine AO.op (O.assign rfl rfl) rfl rfl rfl ?_
   refine AO.op (O.assign rfl rfl) rfl rfl rfl ?_
   refine AO.op (O.assign rfl rfl) rfl rfl rfl ?_
   refine AO.nil ?_
   refine AQ.thenN ?_
   refine AW.ret ?_
   refine AQ.thenR ?_
   refine FnQ.coe (AQ.ret3G rfl (by exact ResAt.tmp rfl) (by exact ResAt.tmp rfl) (by exact ResAt.tmp rfl) ⟨_, List.nil_sublist _, .nil⟩ ⟨rfl, rfl⟩) (Coe.tup (by (repeat (first | exact CoeL.nil | refine CoeL.cons Coe.rfl ?_ | refine CoeL.cons Coe.nil ?_)); done)) (⟨rfl, rfl⟩)
  ·skip
   exact absurd h30 (by simp)
/-! ### The number of a block -/
theorem or8 {x : Int} (h0 : 0 ≤ x) (h1 : x < 4611686018427387904) (h : x % 16 < 8) : Go.bits .or .i64 x 8 = x + 8 := by
 obtain ⟨a, rfl⟩ : ∃ a : Nat, x = (a : Int) := ⟨x.toNat, by omega⟩
 have e : a ||| 8 = a + 8 := by
  have h2 : a = 2 ^ 4 * (a / 16) + a % 16 := by omega
  have h3 : a % 16 < 8 := by omega
  have h4 := Nat.two_pow_add_eq_or_of_lt (i := 4) (b := a % 16) (by omega) (a / 16)
  have h5 := Nat.two_pow_add_eq_or_of_lt (i := 4) (b := a % 16 + 8) (by omega) (a / 16)
  have h6 := Nat.two_pow_add_eq_or_of_lt (i := 3) (b := a % 16) (by omega) 1
  have h7 : a % 16 ||| 8 = a % 16 + 8 := by rw [Nat.or_comm]; exact h6.symm.trans (by omega)
  calc a ||| 8 = (2 ^ 4 * (a / 16) ||| a % 16) ||| 8 := by rw [← h4, ← h2]
   _ = 2 ^ 4 * (a / 16) ||| (a % 16 + 8) := by rw [Nat.or_assoc, h7]
   _ = a + 8 := by rw [← h5]; omega
 have h9 := (bits_nat .i64 63 (by decide) wraps_i64 a 8 (by omega) (by decide)).2
 rw [show Go.bits .or .i64 (a : Int) 8 = ((a ||| 8 : Nat) : Int) from h9, e]
 omega
theorem bvalue_fn (num : Int) (more : Bool) (sz : Int) (h : 0 ≤ num ∧ num ≤ 1000) (hs : 0 ≤ sz ∧ sz ≤ 2) : Sp Tryz.prog 25 [blkA num more sz] [] (Is (.tup [roB (fromU (valB sz num more)), .val (.int .i64 0)])) := by
 have hor8 : Go.bits .or .i64 (num * 16 + sz) 8 = num * 16 + sz + 8 := or8 (by omega) (by omega) (by omega)
 cases more with
 | true =>
  refine Sp.enter Tryz.func25 rfl _ Tryz.ntmps25 rfl (fun w0 R0 => ?_)
  refine AW.seq ?_
  refine AW.region ?_
  refine AO.opB (O.box rfl rfl rfl rfl rfl) rfl rfl rfl ?_
  intro B1
  refine AO.op (O.assign rfl rfl) rfl rfl rfl ?_
  refine AO.op (O.assign rfl rfl) rfl rfl rfl ?_
  refine AO.nil ?_
  refine AQ.thenN ?_
  refine AW.seq ?_
  refine AW.seq ?_
  refine AW.region ?_
  (refine AO.op (O.loadK rfl rfl (by repeat (exact List.Mem.head _)) (by (dsimp only [List.set, List.cons_append, List.nil_append, List.take, List.drop]; done)) (by rfl)) rfl rfl rfl ?_)
  refine AO.op (O.call rfl Tryz.func60 rfl rfl rfl (bsound_fn _ _ _ ⟨by omega, by omega⟩ ⟨by omega, by omega⟩)) rfl rfl rfl ?_
  refine AO.op (O.not rfl rfl (by rfl)) rfl rfl rfl ?_
  refine AO.nil ?_
  refine AQ.thenN ?_
  refine AW.split rfl (fun h7 => ?_) (fun h7 => ?_) <;> (try simp only [decide_eq_true_eq, decide_eq_false_iff_not, beq_iff_eq, beq_eq_false_iff_ne, bne_iff_ne, bne_eq_false_iff_eq, Bool.not_eq_true', Bool.not_eq_false', Bool.not_eq_true, Bool.not_eq_false, ne_eq, Int.not_lt, Int.not_le, Bool.and_eq_true, Bool.or_eq_true, Bool.or_eq_false_iff, Bool.and_eq_false_imp, strOf_toList, Decidable.not_not] at h7)
  ·skip
   exact absurd h7 (by simp)
  ·skip
   refine AW.skip ?_
   refine AQ.thenN ?_
   refine AW.seq ?_
   refine AW.region ?_
   refine AO.op (O.fieldAddr rfl rfl) rfl rfl rfl ?_
   refine AO.op (O.load rfl rfl (by repeat (exact List.Mem.head _)) (by rfl)) rfl rfl rfl ?_
   refine AO.op (O.shlK 4 16 rfl rfl rfl rfl (by rfl) (by exact wI64 (by omega))) rfl rfl rfl ?_
   refine AO.op (O.fieldAddr rfl rfl) rfl rfl rfl ?_
   refine AO.op (O.load rfl rfl (by repeat (exact List.Mem.head _)) (by rfl)) rfl rfl rfl ?_
   refine AO.op (O.or_ rfl rfl rfl (orI64 4 (m := 16) (by decide) (by omega) (by omega))) rfl rfl rfl ?_
   refine AO.op (O.assign rfl rfl) rfl rfl rfl ?_
   refine AO.nil ?_
   refine AQ.thenN ?_
   refine AW.seq ?_
   refine AW.seq ?_
   refine AW.region ?_
   refine AO.op (O.fieldAddr rfl rfl) rfl rfl rfl ?_
   refine AO.op (O.load rfl rfl (by repeat (exact List.Mem.head _)) (by rfl)) rfl rfl rfl ?_
   refine AO.nil ?_
   refine AQ.thenN ?_
   refine AW.split rfl (fun h15 => ?_) (fun h15 => ?_) <;> (try simp only [decide_eq_true_eq, decide_eq_false_iff_not, beq_iff_eq, beq_eq_false_iff_ne, bne_iff_ne, bne_eq_false_iff_eq, Bool.not_eq_true', Bool.not_eq_false', Bool.not_eq_true, Bool.not_eq_false, ne_eq, Int.not_lt, Int.not_le, Bool.and_eq_true, Bool.or_eq_true, Bool.or_eq_false_iff, Bool.and_eq_false_imp, strOf_toList, Decidable.not_not] at h15)
   ·skip
    refine AW.region ?_
    refine AO.op (O.move rfl rfl) rfl rfl rfl ?_
    refine AO.op (O.or_ rfl rfl rfl hor8) rfl rfl rfl ?_
    refine AO.op (O.assign rfl rfl) rfl rfl rfl ?_
    refine AO.nil ?_
    refine AQ.thenN ?_
    refine AW.seq ?_
    refine AW.region ?_
    refine AO.op (O.move rfl rfl) rfl rfl rfl ?_
    refine AO.op (O.call rfl Tryz.func16 rfl rfl rfl (fromuint_fn _ (by omega))) rfl rfl rfl ?_
    refine AO.op (O.assign rfl rfl) rfl rfl rfl ?_
    refine AO.op (O.assign rfl rfl) rfl rfl rfl ?_
    refine AO.nil ?_
    refine AQ.thenN ?_
    refine AW.ret ?_
    refine AQ.ret2 rfl rfl rfl ⟨_, List.nil_sublist _, .nil⟩ (⟨rfl, rfl⟩)
   ·skip
    exact absurd h15 (by simp)
 | false =>
  refine Sp.enter Tryz.func25 rfl _ Tryz.ntmps25 rfl (fun w0 R0 => ?_)
  refine AW.seq ?_
  refine AW.region ?_
  refine AO.opB (O.box rfl rfl rfl rfl rfl) rfl rfl rfl ?_
  intro B1
  refine AO.op (O.assign rfl rfl) rfl rfl rfl ?_
  refine AO.op (O.assign rfl rfl) rfl rfl rfl ?_
  refine AO.nil ?_
  refine AQ.thenN ?_
  refine AW.seq ?_
  refine AW.seq ?_
  refine AW.region ?_
  (refine AO.op (O.loadK rfl rfl (by repeat (exact List.Mem.head _)) (by (dsimp only [List.set, List.cons_append, List.nil_append, List.take, List.drop]; done)) (by rfl)) rfl rfl rfl ?_)
  refine AO.op (O.call rfl Tryz.func60 rfl rfl rfl (bsound_fn _ _ _ ⟨by omega, by omega⟩ ⟨by omega, by omega⟩)) rfl rfl rfl ?_
  refine AO.op (O.not rfl rfl (by rfl)) rfl rfl rfl ?_
  refine AO.nil ?_
  refine AQ.thenN ?_
  refine AW.split rfl (fun h7 => ?_) (fun h7 => ?_) <;> (try simp only [decide_eq_true_eq, decide_eq_false_iff_not, beq_iff_eq, beq_eq_false_iff_ne, bne_iff_ne, bne_eq_false_iff_eq, Bool.not_eq_true', Bool.not_eq_false', Bool.not_eq_true, Bool.not_eq_false, ne_eq, Int.not_lt, Int.not_le, Bool.and_eq_true, Bool.or_eq_true, Bool.or_eq_false_iff, Bool.and_eq_false_imp, strOf_toList, Decidable.not_not] at h7)
  ·skip
   exact absurd h7 (by simp)
  ·skip
   refine AW.skip ?_
   refine AQ.thenN ?_
   refine AW.seq ?_
   refine AW.region ?_
   refine AO.op (O.fieldAddr rfl rfl) rfl rfl rfl ?_
   refine AO.op (O.load rfl rfl (by repeat (exact List.Mem.head _)) (by rfl)) rfl rfl rfl ?_
   refine AO.op (O.shlK 4 16 rfl rfl rfl rfl (by rfl) (by exact wI64 (by omega))) rfl rfl rfl ?_
   refine AO.op (O.fieldAddr rfl rfl) rfl rfl rfl ?_
   refine AO.op (O.load rfl rfl (by repeat (exact List.Mem.head _)) (by rfl)) rfl rfl rfl ?_
   refine AO.op (O.or_ rfl rfl rfl (orI64 4 (m := 16) (by decide) (by omega) (by omega))) rfl rfl rfl ?_
   refine AO.op (O.assign rfl rfl) rfl rfl rfl ?_
   refine AO.nil ?_
   refine AQ.thenN ?_
   refine AW.seq ?_
   refine AW.seq ?_
   refine AW.region ?_
   refine AO.op (O.fieldAddr rfl rfl) rfl rfl rfl ?_
   refine AO.op (O.load rfl rfl (by repeat (exact List.Mem.head _)) (by rfl)) rfl rfl rfl ?_
   refine AO.nil ?_
   refine AQ.thenN ?_
   refine AW.split rfl (fun h15 => ?_) (fun h15 => ?_) <;> (try simp only [decide_eq_true_eq, decide_eq_false_iff_not, beq_iff_eq, beq_eq_false_iff_ne, bne_iff_ne, bne_eq_false_iff_eq, Bool.not_eq_true', Bool.not_eq_false', Bool.not_eq_true, Bool.not_eq_false, ne_eq, Int.not_lt, Int.not_le, Bool.and_eq_true, Bool.or_eq_true, Bool.or_eq_false_iff, Bool.and_eq_false_imp, strOf_toList, Decidable.not_not] at h15)
   ·skip
    exact absurd h15 (by simp)
   ·skip
    refine AW.skip ?_
    refine AQ.thenN ?_
    refine AW.seq ?_
    refine AW.region ?_
    refine AO.op (O.move rfl rfl) rfl rfl rfl ?_
    refine AO.op (O.call rfl Tryz.func16 rfl rfl rfl (fromuint_fn _ (by omega))) rfl rfl rfl ?_
    refine AO.op (O.assign rfl rfl) rfl rfl rfl ?_
    refine AO.op (O.assign rfl rfl) rfl rfl rfl ?_
    refine AO.nil ?_
    refine AQ.thenN ?_
    refine AW.ret ?_
    refine AQ.ret2 rfl rfl rfl ⟨_, List.nil_sublist _, .nil⟩ (⟨congrArg (fun z => AV.tup [roB (fromU z), .val (.int .i64 0)]) (Int.add_zero _).symm, rfl⟩)
theorem bparse_fn (num : Int) (more : Bool) (sz : Int) (h : 0 ≤ num ∧ num ≤ 1000) (hs : 0 ≤ sz ∧ sz ≤ 2) : Sp Tryz.prog 27 [roB (fromU (valB sz num more))] [] (Is (.tup [blkA num more sz, .val (.int .i64 0)])) := by
 obtain ⟨b1, b2, b3, b4, b5⟩ := valB_back (more := more) hs h
 have hl := uint_from b1 b2
 have hu := ouint_fn (fromU (valB sz num more)) (by omega)
 rw [hl.1] at hu
 have h4 : (valB sz num more) / 16 = num := b4
 have h7 : Go.bits .and .i64 (valB sz num more) 7 = sz := by rw [andI64 3 (by decide) (q := 7) (m := 8) (by decide) (by decide) ⟨b1, by omega⟩]; exact b3
 have h8 : Go.bits .and .i64 (valB sz num more) 8 = if more = true then 8 else 0 := by
  obtain ⟨a, ha⟩ : ∃ a : Nat, valB sz num more = (a : Int) := ⟨(valB sz num more).toNat, by omega⟩
  rw [ha] at b1 b2 b5 ⊢
  rw [show Go.bits .and .i64 (a : Int) 8 = ((a &&& 8 : Nat) : Int) from andFI64 (by omega) (by decide)]
  have e : a &&& 8 = (a % 16 / 8) * 8 := by
   have e1 : a &&& 8 = (a % 16) &&& 8 := by
    have := Nat.and_two_pow_sub_one_eq_mod a 4
    rw [show a % 16 = a &&& 15 from this.symm, Nat.and_assoc]
    rfl
   have hlt : a % 16 < 16 := Nat.mod_lt _ (by decide)
   rw [e1]
   generalize a % 16 = r at *
   have key : ∀ r, r < 16 → r &&& 8 = r / 8 * 8 := by decide
   exact key r hlt
  rw [e]
  split at b5 <;> rename_i hm <;> simp [hm] <;> omega
 have hfl := fromU_len (valB sz num more)
 generalize fromU (valB sz num more) = fl at *
 generalize valB sz num more = v at *
 cases more with
 | true =>
  refine Sp.enter Tryz.func27 rfl _ Tryz.ntmps27 rfl (fun w0 R0 => ?_)
  refine AW.seq ?_
  refine AW.region ?_
  refine AO.opB (O.alloc rfl (by (dsimp only [zerosA, List.replicate, List.append, List.flatten, AV.cells, Value.cells, List.toList_toArray, List.map]; done)) (by rfl)) rfl rfl rfl ?_
  intro B1
  refine AO.op (O.assign rfl rfl) rfl rfl rfl ?_
  refine AO.nil ?_
  refine AQ.thenN ?_
  refine AW.seq ?_
  refine AW.region ?_
  refine AO.op (O.move rfl rfl) rfl rfl rfl ?_
  refine AO.op (O.call rfl Tryz.func18 rfl rfl rfl (hu)) rfl rfl rfl ?_
  refine AO.op (O.move rfl rfl) rfl rfl rfl ?_
  refine AO.op (O.extract rfl rfl rfl) rfl rfl rfl ?_
  refine AO.op (O.extract rfl rfl rfl) rfl rfl rfl ?_
  refine AO.op (O.assign rfl rfl) rfl rfl rfl ?_
  refine AO.op (O.assign rfl rfl) rfl rfl rfl ?_
  refine AO.nil ?_
  refine AQ.thenN ?_
  refine AW.seq ?_
  refine AW.seq ?_
  refine AW.region ?_
  refine AO.op (O.move rfl rfl) rfl rfl rfl ?_
  refine AO.op (O.lenR rfl rfl) rfl rfl rfl ?_
  refine AO.op (O.gtr rfl rfl rfl (by exact bFalse (by omega))) rfl rfl rfl ?_
  refine AO.op (O.move rfl rfl) rfl rfl rfl ?_
  refine AO.op (O.move rfl rfl) rfl rfl rfl ?_
  refine AO.op (O.neq rfl rfl rfl (by exact bne_eq_false_iff_eq.2 (by omega))) rfl rfl rfl ?_
  refine AO.op (O.pickF rfl rfl rfl) rfl rfl rfl ?_
  refine AO.op (O.move rfl rfl) rfl rfl rfl ?_
  refine AO.op (O.move rfl rfl) rfl rfl rfl ?_
  refine AO.op (O.and_ rfl rfl rfl h7) rfl rfl rfl ?_
  refine AO.op (O.eql rfl rfl rfl (by exact beq_eq_false_iff_ne.2 (by omega))) rfl rfl rfl ?_
  refine AO.op (O.pickF rfl rfl rfl) rfl rfl rfl ?_
  refine AO.nil ?_
  refine AQ.thenN ?_
  refine AW.split rfl (fun h22 => ?_) (fun h22 => ?_) <;> (try simp only [decide_eq_true_eq, decide_eq_false_iff_not, beq_iff_eq, beq_eq_false_iff_ne, bne_iff_ne, bne_eq_false_iff_eq, Bool.not_eq_true', Bool.not_eq_false', Bool.not_eq_true, Bool.not_eq_false, ne_eq, Int.not_lt, Int.not_le, Bool.and_eq_true, Bool.or_eq_true, Bool.or_eq_false_iff, Bool.and_eq_false_imp, strOf_toList, Decidable.not_not] at h22)
  ·skip
   exact absurd h22 (by simp)
  ·skip
   refine AW.skip ?_
   refine AQ.thenN ?_
   refine AW.seq ?_
   refine AW.region ?_
   refine AO.op (O.move rfl rfl) rfl rfl rfl ?_
   refine AO.op (O.shrK 4 16 rfl rfl rfl rfl (by rfl)) rfl rfl rfl ?_
   refine AO.op (O.move rfl rfl) rfl rfl rfl ?_
   refine AO.op (O.and_ rfl rfl rfl h8) rfl rfl rfl ?_
   refine AO.op (O.eql rfl rfl rfl (by rfl)) rfl rfl rfl ?_
   refine AO.op (O.move rfl rfl) rfl rfl rfl ?_
   refine AO.op (O.and_ rfl rfl rfl h7) rfl rfl rfl ?_
   refine AO.op (O.build rfl rfl rfl (by rfl)) rfl rfl rfl ?_
   (refine AO.store (i := 0) rfl rfl rfl rfl rfl rfl (by rfl) (by rfl) (by rfl) (by (dsimp only [List.set, List.cons_append, List.nil_append, List.take, List.drop]; done)) (by (dsimp only [List.set, List.cons_append, List.nil_append, List.take, List.drop]; done)) ?_)
   refine AO.op (O.assign rfl rfl) rfl rfl rfl ?_
   refine AO.nil ?_
   refine AQ.thenN ?_
   refine AW.ret ?_
   refine FnQ.coe (AQ.retCT rfl rfl rfl (by repeat (exact List.Mem.head _)) (by (dsimp only [List.set, List.cons_append, List.nil_append, List.take, List.drop]; done)) (by rfl) ⟨_, List.nil_sublist _, .nil⟩ ⟨rfl, rfl⟩) (Coe.tup (by (repeat (first | exact CoeL.nil | refine CoeL.cons Coe.rfl ?_)); done)) (⟨congrArg (fun z => AV.tup [.agg [.val (.int .i64 z), .val (.bool true), .val (.int .i64 sz)], .val (.int .i64 0)]) h4, rfl⟩)
 | false =>
  refine Sp.enter Tryz.func27 rfl _ Tryz.ntmps27 rfl (fun w0 R0 => ?_)
  refine AW.seq ?_
  refine AW.region ?_
  refine AO.opB (O.alloc rfl (by (dsimp only [zerosA, List.replicate, List.append, List.flatten, AV.cells, Value.cells, List.toList_toArray, List.map]; done)) (by rfl)) rfl rfl rfl ?_
  intro B1
  refine AO.op (O.assign rfl rfl) rfl rfl rfl ?_
  refine AO.nil ?_
  refine AQ.thenN ?_
  refine AW.seq ?_
  refine AW.region ?_
  refine AO.op (O.move rfl rfl) rfl rfl rfl ?_
  refine AO.op (O.call rfl Tryz.func18 rfl rfl rfl (hu)) rfl rfl rfl ?_
  refine AO.op (O.move rfl rfl) rfl rfl rfl ?_
  refine AO.op (O.extract rfl rfl rfl) rfl rfl rfl ?_
  refine AO.op (O.extract rfl rfl rfl) rfl rfl rfl ?_
  refine AO.op (O.assign rfl rfl) rfl rfl rfl ?_
  refine AO.op (O.assign rfl rfl) rfl rfl rfl ?_
  refine AO.nil ?_
  refine AQ.thenN ?_
  refine AW.seq ?_
  refine AW.seq ?_
  refine AW.region ?_
  refine AO.op (O.move rfl rfl) rfl rfl rfl ?_
  refine AO.op (O.lenR rfl rfl) rfl rfl rfl ?_
  refine AO.op (O.gtr rfl rfl rfl (by exact bFalse (by omega))) rfl rfl rfl ?_
  refine AO.op (O.move rfl rfl) rfl rfl rfl ?_
  refine AO.op (O.move rfl rfl) rfl rfl rfl ?_
  refine AO.op (O.neq rfl rfl rfl (by exact bne_eq_false_iff_eq.2 (by omega))) rfl rfl rfl ?_
  refine AO.op (O.pickF rfl rfl rfl) rfl rfl rfl ?_
  refine AO.op (O.move rfl rfl) rfl rfl rfl ?_
  refine AO.op (O.move rfl rfl) rfl rfl rfl ?_
  refine AO.op (O.and_ rfl rfl rfl h7) rfl rfl rfl ?_
  refine AO.op (O.eql rfl rfl rfl (by exact beq_eq_false_iff_ne.2 (by omega))) rfl rfl rfl ?_
  refine AO.op (O.pickF rfl rfl rfl) rfl rfl rfl ?_
  refine AO.nil ?_
  refine AQ.thenN ?_
  refine AW.split rfl (fun h22 => ?_) (fun h22 => ?_) <;> (try simp only [decide_eq_true_eq, decide_eq_false_iff_not, beq_iff_eq, beq_eq_false_iff_ne, bne_iff_ne, bne_eq_false_iff_eq, Bool.not_eq_true', Bool.not_eq_false', Bool.not_eq_true, Bool.not_eq_false, ne_eq, Int.not_lt, Int.not_le, Bool.and_eq_true, Bool.or_eq_true, Bool.or_eq_false_iff, Bool.and_eq_false_imp, strOf_toList, Decidable.not_not] at h22)
  ·skip
   exact absurd h22 (by simp)
  ·skip
   refine AW.skip ?_
   refine AQ.thenN ?_
   refine AW.seq ?_
   refine AW.region ?_
   refine AO.op (O.move rfl rfl) rfl rfl rfl ?_
   refine AO.op (O.shrK 4 16 rfl rfl rfl rfl (by rfl)) rfl rfl rfl ?_
   refine AO.op (O.move rfl rfl) rfl rfl rfl ?_
   refine AO.op (O.and_ rfl rfl rfl h8) rfl rfl rfl ?_
   refine AO.op (O.eql rfl rfl rfl (by rfl)) rfl rfl rfl ?_
   refine AO.op (O.move rfl rfl) rfl rfl rfl ?_
   refine AO.op (O.and_ rfl rfl rfl h7) rfl rfl rfl ?_
   refine AO.op (O.build rfl rfl rfl (by rfl)) rfl rfl rfl ?_
   (refine AO.store (i := 0) rfl rfl rfl rfl rfl rfl (by rfl) (by rfl) (by rfl) (by (dsimp only [List.set, List.cons_append, List.nil_append, List.take, List.drop]; done)) (by (dsimp only [List.set, List.cons_append, List.nil_append, List.take, List.drop]; done)) ?_)
   refine AO.op (O.assign rfl rfl) rfl rfl rfl ?_
   refine AO.nil ?_
   refine AQ.thenN ?_
   refine AW.ret ?_
   refine FnQ.coe (AQ.retCT rfl rfl rfl (by repeat (exact List.Mem.head _)) (by (dsimp only [List.set, List.cons_append, List.nil_append, List.take, List.drop]; done)) (by rfl) ⟨_, List.nil_sublist _, .nil⟩ ⟨rfl, rfl⟩) (Coe.tup (by (repeat (first | exact CoeL.nil | refine CoeL.cons Coe.rfl ?_)); done)) (⟨congrArg (fun z => AV.tup [.agg [.val (.int .i64 z), .val (.bool false), .val (.int .i64 sz)], .val (.int .i64 0)]) h4, rfl⟩)
end Go.Proofs.YtoonnnifelnaiaaGreatDoor.By
