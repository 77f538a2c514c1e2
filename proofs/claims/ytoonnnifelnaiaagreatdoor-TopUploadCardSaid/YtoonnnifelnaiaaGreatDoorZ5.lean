/-
  Texts laid together (part 5): what the statement's walk and plain law need. No condition.
-/
import Derived.Test.YtoonnnifelnaiaaGreatDoorZ4
namespace Go.Proofs.YtoonnnifelnaiaaGreatDoor.Ob
open Go.RowKit L A
set_option linter.unusedVariables false
set_option maxRecDepth 20000
set_option linter.unusedSimpArgs false
attribute [local irreducible] AW AQ AO

structure Watch where
 peer : Int
 tok : List UInt8
 key : List UInt8
 seq : Int
 since : Int
 deriving BEq, DecidableEq

def cellsW (p : Int) (tk ky : List UInt8) (s t : Int) : List AV := [.val (.int .i64 p), roB tk, roB ky, .val (.int .i64 s), .val (.int .i64 t)]

def soundB (p : Int) (tk ky : List UInt8) (s t : Int) : Bool := decide (0 ≤ p) && decide (p ≤ 65536) && decide ((tk.length : Int) ≤ 8) && decide ((ky.length : Int) ≤ 4096) && decide (0 ≤ s) && decide (s < 16777216) && decide (0 ≤ t)
def meetsB (p : Int) (tk ky : List UInt8) (p' : Int) (tk' ky' : List UInt8) : Bool := (p == p') && ((tk == tk') || (ky == ky'))

theorem equal_fn (a b : List UInt8) : Sp Tryz.prog 46 [roB a, roB b] [] (Is (.val (.bool (a == b)))) := by
 refine Sp.enter Tryz.func46 rfl _ Tryz.ntmps46 rfl (fun w0 R0 => ?_)
 refine AW.seq ?_
 refine AW.region ?_
 refine AO.op (O.assign rfl rfl) rfl rfl rfl ?_
 refine AO.nil ?_
 refine AQ.thenN ?_
 refine AW.seq ?_
 refine AW.region ?_
 refine AO.op (O.move rfl rfl) rfl rfl rfl ?_
 first | (refine AO.op (O.convS rfl rfl rfl) rfl rfl rfl ?_) | (refine AO.op (O.convSV rfl rfl (by repeat (first | exact List.Mem.head _ | refine List.Mem.tail _ ?_)) rfl) rfl rfl rfl ?_)
 refine AO.op (O.move rfl rfl) rfl rfl rfl ?_
 first | (refine AO.op (O.convS rfl rfl rfl) rfl rfl rfl ?_) | (refine AO.op (O.convSV rfl rfl (by repeat (first | exact List.Mem.head _ | refine List.Mem.tail _ ?_)) rfl) rfl rfl rfl ?_)
 refine AO.op (O.eqlS rfl rfl rfl (by first | assumption | rfl)) rfl rfl rfl ?_
 refine AO.op (O.assign rfl rfl) rfl rfl rfl ?_
 refine AO.nil ?_
 refine AQ.thenN ?_
 refine AW.ret ?_
 refine AQ.ret1 rfl rfl ⟨_, List.nil_sublist _, .nil⟩ (⟨by rw [strOf_toList, strOf_toList], rfl⟩)

set_option maxHeartbeats 1000000 in
theorem sound_fn (p : Int) (tk ky : List UInt8) (s t : Int) : Sp Tryz.prog 40 [.agg (cellsW p tk ky s t)] [] (Is (.val (.bool (soundB p tk ky s t)))) := by
 refine Sp.enter Tryz.func40 rfl _ Tryz.ntmps40 rfl (fun w0 R0 => ?_)
 refine AW.seq ?_
 refine AW.region ?_
 refine AO.opB (O.box rfl rfl rfl rfl rfl) rfl rfl rfl ?_
 intro B
 refine AO.op (O.assign rfl rfl) rfl rfl rfl ?_
 refine AO.nil ?_
 refine AQ.thenN ?_
 refine AW.seq ?_
 refine AW.region ?_
 first | (refine AO.op (O.fieldAddrR rfl rfl) rfl rfl rfl ?_) | (refine AO.op (O.fieldAddr rfl rfl) rfl rfl rfl ?_)
 first | (refine AO.op (O.loadR rfl rfl rfl) rfl rfl rfl ?_) | (refine AO.op (O.load rfl rfl (by repeat (first | exact List.Mem.head _ | refine List.Mem.tail _ ?_)) rfl) rfl rfl rfl ?_)
 refine AO.op (O.geq rfl rfl rfl (by first | exact bTrue (by omega) | exact bFalse (by omega) | assumption | rfl)) rfl rfl rfl ?_
 refine AO.op (O.move rfl rfl) rfl rfl rfl ?_
 first | (refine AO.opG rfl rfl rfl (fun hp => O.fieldAddrR rfl rfl) ?_) | (refine AO.opG rfl rfl rfl (fun hp => O.fieldAddr rfl rfl) ?_) | (refine AO.op (O.fieldAddrR rfl rfl) rfl rfl rfl ?_) | (refine AO.op (O.fieldAddr rfl rfl) rfl rfl rfl ?_) | (refine AO.no rfl rfl rfl ?_)
 first | (refine AO.opG rfl rfl rfl (fun hp => OpW.force 7 rfl (by first | exact hp | simp_all) (O.loadR rfl rfl rfl)) ?_) | (refine AO.opG rfl rfl rfl (fun hp => OpW.force 7 rfl (by first | exact hp | simp_all) (O.load rfl rfl (by repeat (first | exact List.Mem.head _ | refine List.Mem.tail _ ?_)) rfl)) ?_) | (refine AO.op (O.loadR rfl rfl rfl) rfl rfl rfl ?_) | (refine AO.op (O.load rfl rfl (by repeat (first | exact List.Mem.head _ | refine List.Mem.tail _ ?_)) rfl) rfl rfl rfl ?_) | (refine AO.no rfl rfl rfl ?_)
 first | (refine AO.opG rfl rfl rfl (fun hp => OpW.force 8 rfl (by first | exact hp | simp_all) (O.leq rfl rfl rfl (by first | exact bTrue (by omega) | exact bFalse (by omega) | assumption | rfl))) ?_) | (refine AO.op (O.leq rfl rfl rfl (by first | exact bTrue (by omega) | exact bFalse (by omega) | assumption | rfl)) rfl rfl rfl ?_) | (refine AO.no rfl rfl rfl ?_)
 first | (refine AO.op (O.pickAnd rfl rfl rfl rfl (fun h => by first | exact h | simp_all)) rfl rfl rfl ?_) | (refine AO.op (O.pickF rfl rfl rfl) rfl rfl rfl ?_) | (refine AO.op (O.pickT rfl rfl rfl) rfl rfl rfl ?_)
 refine AO.op (O.move rfl rfl) rfl rfl rfl ?_
 first | (refine AO.opG rfl rfl rfl (fun hp => O.fieldAddrR rfl rfl) ?_) | (refine AO.opG rfl rfl rfl (fun hp => O.fieldAddr rfl rfl) ?_) | (refine AO.op (O.fieldAddrR rfl rfl) rfl rfl rfl ?_) | (refine AO.op (O.fieldAddr rfl rfl) rfl rfl rfl ?_) | (refine AO.no rfl rfl rfl ?_)
 first | (refine AO.opG rfl rfl rfl (fun hp => OpW.force 12 rfl (by first | exact hp | simp_all) (O.loadR rfl rfl rfl)) ?_) | (refine AO.opG rfl rfl rfl (fun hp => OpW.force 12 rfl (by first | exact hp | simp_all) (O.load rfl rfl (by repeat (first | exact List.Mem.head _ | refine List.Mem.tail _ ?_)) rfl)) ?_) | (refine AO.op (O.loadR rfl rfl rfl) rfl rfl rfl ?_) | (refine AO.op (O.load rfl rfl (by repeat (first | exact List.Mem.head _ | refine List.Mem.tail _ ?_)) rfl) rfl rfl rfl ?_) | (refine AO.no rfl rfl rfl ?_)
 first | (refine AO.opG rfl rfl rfl (fun hp => OpW.force 13 rfl (by first | exact hp | simp_all) (O.lenR rfl rfl)) ?_) | (refine AO.opG rfl rfl rfl (fun hp => OpW.force 13 rfl (by first | exact hp | simp_all) (O.lenV rfl rfl)) ?_) | (refine AO.opG rfl rfl rfl (fun hp => OpW.force 13 rfl (by first | exact hp | simp_all) (O.lenRow rfl rfl (by repeat (first | exact List.Mem.head _ | refine List.Mem.tail _ ?_)))) ?_) | (refine AO.opG rfl rfl rfl (fun hp => OpW.force 13 rfl (by first | exact hp | simp_all) (O.lenS rfl rfl)) ?_) | (refine AO.op (O.lenR rfl rfl) rfl rfl rfl ?_) | (refine AO.op (O.lenV rfl rfl) rfl rfl rfl ?_) | (refine AO.op (O.lenRow rfl rfl (by repeat (first | exact List.Mem.head _ | refine List.Mem.tail _ ?_))) rfl rfl rfl ?_) | (refine AO.op (O.lenS rfl rfl) rfl rfl rfl ?_) | (refine AO.no rfl rfl rfl ?_)
 first | (refine AO.opG rfl rfl rfl (fun hp => OpW.force 14 rfl (by first | exact hp | simp_all) (O.leq rfl rfl rfl (by first | exact bTrue (by omega) | exact bFalse (by omega) | assumption | rfl))) ?_) | (refine AO.op (O.leq rfl rfl rfl (by first | exact bTrue (by omega) | exact bFalse (by omega) | assumption | rfl)) rfl rfl rfl ?_) | (refine AO.no rfl rfl rfl ?_)
 first | (refine AO.op (O.pickAnd rfl rfl rfl rfl (fun h => by first | exact h | simp_all)) rfl rfl rfl ?_) | (refine AO.op (O.pickF rfl rfl rfl) rfl rfl rfl ?_) | (refine AO.op (O.pickT rfl rfl rfl) rfl rfl rfl ?_)
 refine AO.op (O.move rfl rfl) rfl rfl rfl ?_
 first | (refine AO.opG rfl rfl rfl (fun hp => O.fieldAddrR rfl rfl) ?_) | (refine AO.opG rfl rfl rfl (fun hp => O.fieldAddr rfl rfl) ?_) | (refine AO.op (O.fieldAddrR rfl rfl) rfl rfl rfl ?_) | (refine AO.op (O.fieldAddr rfl rfl) rfl rfl rfl ?_) | (refine AO.no rfl rfl rfl ?_)
 first | (refine AO.opG rfl rfl rfl (fun hp => OpW.force 18 rfl (by first | exact hp | simp_all) (O.loadR rfl rfl rfl)) ?_) | (refine AO.opG rfl rfl rfl (fun hp => OpW.force 18 rfl (by first | exact hp | simp_all) (O.load rfl rfl (by repeat (first | exact List.Mem.head _ | refine List.Mem.tail _ ?_)) rfl)) ?_) | (refine AO.op (O.loadR rfl rfl rfl) rfl rfl rfl ?_) | (refine AO.op (O.load rfl rfl (by repeat (first | exact List.Mem.head _ | refine List.Mem.tail _ ?_)) rfl) rfl rfl rfl ?_) | (refine AO.no rfl rfl rfl ?_)
 first | (refine AO.opG rfl rfl rfl (fun hp => OpW.force 19 rfl (by first | exact hp | simp_all) (O.lenR rfl rfl)) ?_) | (refine AO.opG rfl rfl rfl (fun hp => OpW.force 19 rfl (by first | exact hp | simp_all) (O.lenV rfl rfl)) ?_) | (refine AO.opG rfl rfl rfl (fun hp => OpW.force 19 rfl (by first | exact hp | simp_all) (O.lenRow rfl rfl (by repeat (first | exact List.Mem.head _ | refine List.Mem.tail _ ?_)))) ?_) | (refine AO.opG rfl rfl rfl (fun hp => OpW.force 19 rfl (by first | exact hp | simp_all) (O.lenS rfl rfl)) ?_) | (refine AO.op (O.lenR rfl rfl) rfl rfl rfl ?_) | (refine AO.op (O.lenV rfl rfl) rfl rfl rfl ?_) | (refine AO.op (O.lenRow rfl rfl (by repeat (first | exact List.Mem.head _ | refine List.Mem.tail _ ?_))) rfl rfl rfl ?_) | (refine AO.op (O.lenS rfl rfl) rfl rfl rfl ?_) | (refine AO.no rfl rfl rfl ?_)
 first | (refine AO.opG rfl rfl rfl (fun hp => OpW.force 20 rfl (by first | exact hp | simp_all) (O.leq rfl rfl rfl (by first | exact bTrue (by omega) | exact bFalse (by omega) | assumption | rfl))) ?_) | (refine AO.op (O.leq rfl rfl rfl (by first | exact bTrue (by omega) | exact bFalse (by omega) | assumption | rfl)) rfl rfl rfl ?_) | (refine AO.no rfl rfl rfl ?_)
 first | (refine AO.op (O.pickAnd rfl rfl rfl rfl (fun h => by first | exact h | simp_all)) rfl rfl rfl ?_) | (refine AO.op (O.pickF rfl rfl rfl) rfl rfl rfl ?_) | (refine AO.op (O.pickT rfl rfl rfl) rfl rfl rfl ?_)
 refine AO.op (O.move rfl rfl) rfl rfl rfl ?_
 first | (refine AO.opG rfl rfl rfl (fun hp => O.fieldAddrR rfl rfl) ?_) | (refine AO.opG rfl rfl rfl (fun hp => O.fieldAddr rfl rfl) ?_) | (refine AO.op (O.fieldAddrR rfl rfl) rfl rfl rfl ?_) | (refine AO.op (O.fieldAddr rfl rfl) rfl rfl rfl ?_) | (refine AO.no rfl rfl rfl ?_)
 first | (refine AO.opG rfl rfl rfl (fun hp => OpW.force 24 rfl (by first | exact hp | simp_all) (O.loadR rfl rfl rfl)) ?_) | (refine AO.opG rfl rfl rfl (fun hp => OpW.force 24 rfl (by first | exact hp | simp_all) (O.load rfl rfl (by repeat (first | exact List.Mem.head _ | refine List.Mem.tail _ ?_)) rfl)) ?_) | (refine AO.op (O.loadR rfl rfl rfl) rfl rfl rfl ?_) | (refine AO.op (O.load rfl rfl (by repeat (first | exact List.Mem.head _ | refine List.Mem.tail _ ?_)) rfl) rfl rfl rfl ?_) | (refine AO.no rfl rfl rfl ?_)
 first | (refine AO.opG rfl rfl rfl (fun hp => OpW.force 25 rfl (by first | exact hp | simp_all) (O.geq rfl rfl rfl (by first | exact bTrue (by omega) | exact bFalse (by omega) | assumption | rfl))) ?_) | (refine AO.op (O.geq rfl rfl rfl (by first | exact bTrue (by omega) | exact bFalse (by omega) | assumption | rfl)) rfl rfl rfl ?_) | (refine AO.no rfl rfl rfl ?_)
 first | (refine AO.op (O.pickAnd rfl rfl rfl rfl (fun h => by first | exact h | simp_all)) rfl rfl rfl ?_) | (refine AO.op (O.pickF rfl rfl rfl) rfl rfl rfl ?_) | (refine AO.op (O.pickT rfl rfl rfl) rfl rfl rfl ?_)
 refine AO.op (O.move rfl rfl) rfl rfl rfl ?_
 first | (refine AO.opG rfl rfl rfl (fun hp => O.fieldAddrR rfl rfl) ?_) | (refine AO.opG rfl rfl rfl (fun hp => O.fieldAddr rfl rfl) ?_) | (refine AO.op (O.fieldAddrR rfl rfl) rfl rfl rfl ?_) | (refine AO.op (O.fieldAddr rfl rfl) rfl rfl rfl ?_) | (refine AO.no rfl rfl rfl ?_)
 first | (refine AO.opG rfl rfl rfl (fun hp => OpW.force 29 rfl (by first | exact hp | simp_all) (O.loadR rfl rfl rfl)) ?_) | (refine AO.opG rfl rfl rfl (fun hp => OpW.force 29 rfl (by first | exact hp | simp_all) (O.load rfl rfl (by repeat (first | exact List.Mem.head _ | refine List.Mem.tail _ ?_)) rfl)) ?_) | (refine AO.op (O.loadR rfl rfl rfl) rfl rfl rfl ?_) | (refine AO.op (O.load rfl rfl (by repeat (first | exact List.Mem.head _ | refine List.Mem.tail _ ?_)) rfl) rfl rfl rfl ?_) | (refine AO.no rfl rfl rfl ?_)
 first | (refine AO.opG rfl rfl rfl (fun hp => OpW.force 30 rfl (by first | exact hp | simp_all) (O.lss rfl rfl rfl (by first | exact bTrue (by omega) | exact bFalse (by omega) | assumption | rfl))) ?_) | (refine AO.op (O.lss rfl rfl rfl (by first | exact bTrue (by omega) | exact bFalse (by omega) | assumption | rfl)) rfl rfl rfl ?_) | (refine AO.no rfl rfl rfl ?_)
 first | (refine AO.op (O.pickAnd rfl rfl rfl rfl (fun h => by first | exact h | simp_all)) rfl rfl rfl ?_) | (refine AO.op (O.pickF rfl rfl rfl) rfl rfl rfl ?_) | (refine AO.op (O.pickT rfl rfl rfl) rfl rfl rfl ?_)
 refine AO.op (O.move rfl rfl) rfl rfl rfl ?_
 first | (refine AO.opG rfl rfl rfl (fun hp => O.fieldAddrR rfl rfl) ?_) | (refine AO.opG rfl rfl rfl (fun hp => O.fieldAddr rfl rfl) ?_) | (refine AO.op (O.fieldAddrR rfl rfl) rfl rfl rfl ?_) | (refine AO.op (O.fieldAddr rfl rfl) rfl rfl rfl ?_) | (refine AO.no rfl rfl rfl ?_)
 first | (refine AO.opG rfl rfl rfl (fun hp => OpW.force 34 rfl (by first | exact hp | simp_all) (O.loadR rfl rfl rfl)) ?_) | (refine AO.opG rfl rfl rfl (fun hp => OpW.force 34 rfl (by first | exact hp | simp_all) (O.load rfl rfl (by repeat (first | exact List.Mem.head _ | refine List.Mem.tail _ ?_)) rfl)) ?_) | (refine AO.op (O.loadR rfl rfl rfl) rfl rfl rfl ?_) | (refine AO.op (O.load rfl rfl (by repeat (first | exact List.Mem.head _ | refine List.Mem.tail _ ?_)) rfl) rfl rfl rfl ?_) | (refine AO.no rfl rfl rfl ?_)
 first | (refine AO.opG rfl rfl rfl (fun hp => OpW.force 35 rfl (by first | exact hp | simp_all) (O.geq rfl rfl rfl (by first | exact bTrue (by omega) | exact bFalse (by omega) | assumption | rfl))) ?_) | (refine AO.op (O.geq rfl rfl rfl (by first | exact bTrue (by omega) | exact bFalse (by omega) | assumption | rfl)) rfl rfl rfl ?_) | (refine AO.no rfl rfl rfl ?_)
 first | (refine AO.op (O.pickAnd rfl rfl rfl rfl (fun h => by first | exact h | simp_all)) rfl rfl rfl ?_) | (refine AO.op (O.pickF rfl rfl rfl) rfl rfl rfl ?_) | (refine AO.op (O.pickT rfl rfl rfl) rfl rfl rfl ?_)
 refine AO.op (O.assign rfl rfl) rfl rfl rfl ?_
 refine AO.nil ?_
 refine AQ.thenN ?_
 refine AW.ret ?_
 refine AQ.ret1 rfl rfl ⟨_, List.nil_sublist _, .nil⟩ (⟨rfl, rfl⟩)
end Go.Proofs.YtoonnnifelnaiaaGreatDoor.Ob

namespace Go.Proofs.YtoonnnifelnaiaaGreatDoor.By
open Go.RowKit L A
set_option linter.unusedVariables false
set_option maxRecDepth 20000
set_option linter.unusedSimpArgs false
attribute [local irreducible] AW AQ AO
theorem ptB_no {peer : Int} {key : List UInt8} {p : Pt} (h : ¬(p.peer = peer ∧ p.key = key)) : ptB peer key p = false := by
 unfold ptB
 rw [Bool.eq_false_iff, ne_eq, Bool.and_eq_true, beq_iff_eq, beq_iff_eq]
 exact h
theorem ptB_yes {peer : Int} {key : List UInt8} {p : Pt} (h : p.peer = peer ∧ p.key = key) : ptB peer key p = true := by
 unfold ptB
 rw [Bool.and_eq_true, beq_iff_eq, beq_iff_eq]
 exact h
def idxP (l : List Pt) (peer : Int) (key : List UInt8) : Int := match l.findIdx? (ptB peer key) with
 | some i => (i : Int)
 | none => -1
theorem bfind_fn (l : List Pt) (peer : Int) (key : List UInt8) (hl : l.length ≤ 1000) : Sp Tryz.prog 64 [roPt l, .val (.int .i64 peer), roB key] [] (Is (.val (.int .i64 (idxP l peer key)))) := by
 refine Sp.enter Tryz.func64 rfl _ Tryz.ntmps64 rfl (fun w0 R0 => ?_)
 refine AW.seq ?_
 refine AW.region ?_
 refine AO.op (O.assign rfl rfl) rfl rfl rfl ?_
 refine AO.nil ?_
 refine AQ.thenN ?_
 refine AW.seq ?_
 refine AW.seq ?_
 refine AW.region ?_
 refine AO.op (O.move rfl rfl) rfl rfl rfl ?_
 refine AO.op (O.lenR rfl rfl) rfl rfl rfl ?_
 refine AO.op (O.move rfl rfl) rfl rfl rfl ?_
 refine AO.nil ?_
 refine AQ.thenN ?_
 refine AW.block ?_
 refine AW.loopK [(1, _), (2, _), (9, _), (10, _)] (fun nn E H => ∃ (k : Nat), (k ≤ l.length) ∧ (∀ q, q < k → ptB peer key (ptA l q) = false) ∧ nn = l.length - k ∧ E = [(11, .val (.int .i64 (k : Int)))] ∧ H = []) _ (⟨0, by omega, fun q hq => absurd hq (by omega), rfl, rfl, rfl⟩) (by repeat (first | exact envNil | refine envCons rfl ?_)) (by repeat (first | exact envNil | refine envCons rfl ?_)) (by repeat (exact subPnil)) ?_
 rintro nn E H ⟨k, hk1, hn, rfl, rfl, rfl⟩
 dsimp only [List.cons_append, List.nil_append]
 refine AW.seq ?_
 refine AW.region ?_
 refine AO.op (O.lss rfl rfl rfl (by rfl)) rfl rfl rfl ?_
 refine AO.nil ?_
 refine AQ.thenN ?_
 refine AW.seq ?_
 refine AW.split rfl (fun hlt => ?_) (fun hlt => ?_) <;> (try simp only [decide_eq_true_eq, decide_eq_false_iff_not, beq_iff_eq, beq_eq_false_iff_ne, bne_iff_ne, bne_eq_false_iff_eq, Bool.not_eq_true', Bool.not_eq_false', Bool.not_eq_true, Bool.not_eq_false, ne_eq, Int.not_lt, Int.not_le, Bool.and_eq_true, Bool.or_eq_true, Bool.or_eq_false_iff, Bool.and_eq_false_imp, strOf_toList, Decidable.not_not] at hlt)
 ·skip
  have hk : k < l.length := by omega
  refine AW.skip ?_
  refine AQ.thenN ?_
  refine AW.seq ?_
  refine AW.block ?_
  refine AW.seq ?_
  refine AW.region ?_
  refine AO.op (O.move rfl rfl) rfl rfl rfl ?_
  refine AO.op (O.idxR rfl rfl rfl ⟨(by omega), (by omega)⟩) rfl rfl rfl ?_
  refine AO.op (O.loadRK rfl rfl (by exact getPt hk (by omega)) (by rfl)) rfl rfl rfl ?_
  refine AO.opB (O.alloc rfl (by (dsimp only [zerosA, List.replicate, List.append, List.flatten, AV.cells, Value.cells, List.toList_toArray, List.map]; done)) (by rfl)) rfl rfl rfl ?_
  intro B1
  refine AO.op (O.assign rfl rfl) rfl rfl rfl ?_
  (refine AO.store (i := 0) rfl rfl rfl rfl rfl rfl (by rfl) (by rfl) (by rfl) (by (dsimp only [List.set, List.cons_append, List.nil_append, List.take, List.drop]; done)) (by (dsimp only [List.set, List.cons_append, List.nil_append, List.take, List.drop]; done)) ?_)
  refine AO.nil ?_
  refine AQ.thenN ?_
  refine AW.seq ?_
  refine AW.region ?_
  refine AO.op (O.fieldAddr rfl rfl) rfl rfl rfl ?_
  refine AO.op (O.load rfl rfl (by repeat (exact List.Mem.head _)) (by rfl)) rfl rfl rfl ?_
  refine AO.op (O.move rfl rfl) rfl rfl rfl ?_
  refine AO.op (O.eql rfl rfl rfl (by rfl)) rfl rfl rfl ?_
  refine AO.op (O.move rfl rfl) rfl rfl rfl ?_
  refine AO.opG rfl rfl rfl (fun hp => O.fieldAddr rfl rfl) ?_
  refine AO.opG rfl rfl rfl (fun hp => OpW.force 21 rfl (by exact hp) (O.load rfl rfl (by repeat (exact List.Mem.head _)) (by rfl))) ?_
  refine AO.opG rfl rfl rfl (fun hp => O.move rfl rfl) ?_
  refine AO.opG rfl rfl rfl (fun hp => OpW.force 22 rfl (by exact hp) (OpW.force 23 rfl (by exact hp) (O.call rfl Tryz.func46 rfl rfl rfl (Ob.equal_fn _ _)))) ?_
  refine AO.op (O.pickAnd rfl rfl rfl rfl (fun h => by exact h)) rfl rfl rfl ?_
  refine AO.nil ?_
  refine AQ.thenN ?_
  refine AW.split rfl (fun h25 => ?_) (fun h25 => ?_) <;> (try simp only [decide_eq_true_eq, decide_eq_false_iff_not, beq_iff_eq, beq_eq_false_iff_ne, bne_iff_ne, bne_eq_false_iff_eq, Bool.not_eq_true', Bool.not_eq_false', Bool.not_eq_true, Bool.not_eq_false, ne_eq, Int.not_lt, Int.not_le, Bool.and_eq_true, Bool.or_eq_true, Bool.or_eq_false_iff, Bool.and_eq_false_imp, strOf_toList, Decidable.not_not] at h25)
  ·skip
   have e1 : idxP l peer key = (k : Int) := by rw [idxP, fi_some (ptB peer key) Pt.none hk (ptB_yes h25) hn]
   refine AW.seq ?_
   refine AW.region ?_
   refine AO.op (O.move rfl rfl) rfl rfl rfl ?_
   refine AO.op (O.assign rfl rfl) rfl rfl rfl ?_
   refine AO.nil ?_
   refine AQ.thenN ?_
   refine AW.ret ?_
   refine AQ.blockR ?_
   refine AQ.thenR ?_
   refine AQ.loopR ?_
   refine AQ.blockR ?_
   refine AQ.thenR ?_
   refine AQ.ret1 rfl rfl ⟨_, List.nil_sublist _, .nil⟩ (⟨congrArg (fun z => AV.val (.int .i64 z)) e1.symm, rfl⟩)
  ·skip
   refine AW.skip ?_
   refine AQ.blockN ?_
   refine AQ.thenN ?_
   refine AW.region ?_
   refine AO.op (O.add rfl rfl rfl (by exact wI64 (by omega))) rfl rfl rfl ?_
   refine AO.op (O.move rfl rfl) rfl rfl rfl ?_
   refine AO.nil ?_
   refine AQ.loopKN _ _ _ (by omega) (⟨k + 1, by omega, fun q hq => (Nat.lt_or_ge q k).elim (hn q) (fun h => by rw [show q = k by omega]; exact ptB_no (fun h2 => (h25 h2.1) h2.2)), rfl, rfl, rfl⟩) (by repeat (first | exact envNil | refine envCons rfl ?_)) (by repeat (first | exact envNil | refine envCons rfl ?_)) (by repeat (exact subPnil))
 ·skip
  obtain rfl : k = l.length := by omega
  have e1 : idxP l peer key = -1 := by rw [idxP, fi_none _ Pt.none hn]
  refine AW.exit ?_
  refine AQ.thenX ?_
  refine AQ.loopX ?_
  refine AQ.blockX rfl ?_
  refine AQ.thenN ?_
  refine AW.seq ?_
  refine AW.region ?_
  refine AO.op (O.assign rfl rfl) rfl rfl rfl ?_
  refine AO.nil ?_
  refine AQ.thenN ?_
  refine AW.ret ?_
  refine AQ.ret1 rfl rfl ⟨_, List.nil_sublist _, .nil⟩ (⟨congrArg (fun z => AV.val (.int .i64 z)) e1.symm, rfl⟩)
theorem ptA_len (l : List Pt) {i : Nat} (h : i ≤ l.length) : (ptsA l).take (i * 4) = ptsA (l.take i) := by rw [ptsA, flat_take cellsPt_len]; rfl
theorem bvalid_fn (l : List Pt) (h : ValP l) : Sp Tryz.prog 62 [roPt l] [] (Is (.val (.bool true))) := by
 obtain ⟨hl, hok⟩ := h
 refine Sp.enter Tryz.func62 rfl _ Tryz.ntmps62 rfl (fun w0 R0 => ?_)
 refine AW.seq ?_
 refine AW.region ?_
 refine AO.op (O.assign rfl rfl) rfl rfl rfl ?_
 refine AO.nil ?_
 refine AQ.thenN ?_
 refine AW.seq ?_
 refine AW.seq ?_
 refine AW.region ?_
 refine AO.op (O.move rfl rfl) rfl rfl rfl ?_
 refine AO.op (O.lenR rfl rfl) rfl rfl rfl ?_
 refine AO.op (O.gtr rfl rfl rfl (by exact bFalse (by omega))) rfl rfl rfl ?_
 refine AO.nil ?_
 refine AQ.thenN ?_
 refine AW.split rfl (fun h7 => ?_) (fun h7 => ?_) <;> (try simp only [decide_eq_true_eq, decide_eq_false_iff_not, beq_iff_eq, beq_eq_false_iff_ne, bne_iff_ne, bne_eq_false_iff_eq, Bool.not_eq_true', Bool.not_eq_false', Bool.not_eq_true, Bool.not_eq_false, ne_eq, Int.not_lt, Int.not_le, Bool.and_eq_true, Bool.or_eq_true, Bool.or_eq_false_iff, Bool.and_eq_false_imp, strOf_toList, Decidable.not_not] at h7)
 ·skip
  exact absurd h7 (by simp)
 ·skip
  refine AW.skip ?_
  refine AQ.thenN ?_
  refine AW.seq ?_
  refine AW.seq ?_
  refine AW.region ?_
  refine AO.op (O.move rfl rfl) rfl rfl rfl ?_
  refine AO.op (O.lenR rfl rfl) rfl rfl rfl ?_
  refine AO.op (O.move rfl rfl) rfl rfl rfl ?_
  refine AO.nil ?_
  refine AQ.thenN ?_
  refine AW.block ?_
  refine AW.loopK [(0, _), (8, _), (9, _)] (fun nn E H => ∃ (k : Nat), (k ≤ l.length) ∧ nn = l.length - k ∧ E = [(10, .val (.int .i64 (k : Int)))] ∧ H = []) _ (⟨0, by omega, rfl, rfl, rfl⟩) (by repeat (first | exact envNil | refine envCons rfl ?_)) (by repeat (first | exact envNil | refine envCons rfl ?_)) (by repeat (exact subPnil)) ?_
  rintro nn E H ⟨k, hk1, rfl, rfl, rfl⟩
  dsimp only [List.cons_append, List.nil_append]
  refine AW.seq ?_
  refine AW.region ?_
  refine AO.op (O.lss rfl rfl rfl (by rfl)) rfl rfl rfl ?_
  refine AO.nil ?_
  refine AQ.thenN ?_
  refine AW.seq ?_
  refine AW.split rfl (fun hlt => ?_) (fun hlt => ?_) <;> (try simp only [decide_eq_true_eq, decide_eq_false_iff_not, beq_iff_eq, beq_eq_false_iff_ne, bne_iff_ne, bne_eq_false_iff_eq, Bool.not_eq_true', Bool.not_eq_false', Bool.not_eq_true, Bool.not_eq_false, ne_eq, Int.not_lt, Int.not_le, Bool.and_eq_true, Bool.or_eq_true, Bool.or_eq_false_iff, Bool.and_eq_false_imp, strOf_toList, Decidable.not_not] at hlt)
  ·skip
   have hk : k < l.length := by omega
   obtain ⟨ho, hno⟩ := hok k hk
   obtain ⟨o1, o2, o3, o4, o5⟩ := ho
   have hkl : (l.take k).length = k := by rw [List.length_take]; omega
   have hfi : Sp Tryz.prog 64 [.ro false k ((ptsA l).take (k * 4)), .val (.int .i64 (ptA l k).peer), roB (ptA l k).key] [] (Is (.val (.int .i64 (-1)))) := by
    have h := bfind_fn (l.take k) (ptA l k).peer (ptA l k).key (by rw [hkl]; omega)
    rw [idxP, hno, show roPt (l.take k) = AV.ro false k ((ptsA l).take (k * 4)) by unfold roPt; rw [ptA_len l (by omega), hkl]] at h
    exact h
   refine AW.skip ?_
   refine AQ.thenN ?_
   refine AW.seq ?_
   refine AW.block ?_
   refine AW.seq ?_
   refine AW.region ?_
   refine AO.op (O.move rfl rfl) rfl rfl rfl ?_
   refine AO.op (O.idxR rfl rfl rfl ⟨(by omega), (by omega)⟩) rfl rfl rfl ?_
   refine AO.op (O.loadRK rfl rfl (by exact getPt hk (by omega)) (by rfl)) rfl rfl rfl ?_
   refine AO.opB (O.alloc rfl (by (dsimp only [zerosA, List.replicate, List.append, List.flatten, AV.cells, Value.cells, List.toList_toArray, List.map]; done)) (by rfl)) rfl rfl rfl ?_
   intro B1
   refine AO.op (O.assign rfl rfl) rfl rfl rfl ?_
   (refine AO.store (i := 0) rfl rfl rfl rfl rfl rfl (by rfl) (by rfl) (by rfl) (by (dsimp only [List.set, List.cons_append, List.nil_append, List.take, List.drop]; done)) (by (dsimp only [List.set, List.cons_append, List.nil_append, List.take, List.drop]; done)) ?_)
   refine AO.nil ?_
   refine AQ.thenN ?_
   refine AW.seq ?_
   refine AW.regionD 36 (by kernel_rfl) (by kernel_rfl) ?_
   simp only [List.take_succ_cons, List.take_zero, List.drop_succ_cons, List.drop_zero]
   refine FA.op (O.fieldAddr rfl rfl) rfl rfl rfl rfl ?_
   refine FA.op (O.load rfl rfl (by repeat (exact List.Mem.head _)) (by rfl)) rfl rfl rfl rfl ?_
   refine FA.op (O.lss rfl rfl rfl (by exact bFalse (by omega))) rfl rfl rfl rfl ?_
   refine FA.op (O.move rfl rfl) rfl rfl rfl rfl ?_
   refine FA.op (O.fieldAddr rfl rfl) rfl rfl rfl rfl ?_
   refine FA.op (O.load rfl rfl (by repeat (exact List.Mem.head _)) (by rfl)) rfl rfl rfl rfl ?_
   refine FA.op (O.gtr rfl rfl rfl (by exact bFalse (by omega))) rfl rfl rfl rfl ?_
   refine FA.op (O.pickF rfl rfl rfl) rfl rfl rfl rfl ?_
   refine FA.op (O.move rfl rfl) rfl rfl rfl rfl ?_
   refine FA.op (O.fieldAddr rfl rfl) rfl rfl rfl rfl ?_
   refine FA.op (O.load rfl rfl (by repeat (exact List.Mem.head _)) (by rfl)) rfl rfl rfl rfl ?_
   refine FA.op (O.lenR rfl rfl) rfl rfl rfl rfl ?_
   refine FA.op (O.gtr rfl rfl rfl (by exact bFalse (by omega))) rfl rfl rfl rfl ?_
   refine FA.op (O.pickF rfl rfl rfl) rfl rfl rfl rfl ?_
   refine FA.op (O.move rfl rfl) rfl rfl rfl rfl ?_
   refine FA.op (O.fieldAddr rfl rfl) rfl rfl rfl rfl ?_
   refine FA.op (O.load rfl rfl (by repeat (exact List.Mem.head _)) (by rfl)) rfl rfl rfl rfl ?_
   refine FA.op (O.lenR rfl rfl) rfl rfl rfl rfl ?_
   refine FA.op (O.gtr rfl rfl rfl (by exact bFalse (by omega))) rfl rfl rfl rfl ?_
   refine FA.op (O.pickF rfl rfl rfl) rfl rfl rfl rfl ?_
   refine FA.op (O.move rfl rfl) rfl rfl rfl rfl ?_
   refine FA.op (O.fieldAddr rfl rfl) rfl rfl rfl rfl ?_
   refine FA.op (O.load rfl rfl (by repeat (exact List.Mem.head _)) (by rfl)) rfl rfl rfl rfl ?_
   refine FA.op (O.lss rfl rfl rfl (by exact bFalse (by omega))) rfl rfl rfl rfl ?_
   refine FA.op (O.pickF rfl rfl rfl) rfl rfl rfl rfl ?_
   refine FA.op (O.move rfl rfl) rfl rfl rfl rfl ?_
   refine FA.op (O.move rfl rfl) rfl rfl rfl rfl ?_
   refine FA.op (O.move rfl rfl) rfl rfl rfl rfl ?_
   refine FA.op (O.sliceTo rfl rfl rfl (by rfl) (by omega) (by rfl)) rfl rfl rfl rfl ?_
   refine FA.op (O.fieldAddr rfl rfl) rfl rfl rfl rfl ?_
   refine FA.op (O.load rfl rfl (by repeat (exact List.Mem.head _)) (by rfl)) rfl rfl rfl rfl ?_
   refine FA.op (O.fieldAddr rfl rfl) rfl rfl rfl rfl ?_
   refine FA.op (O.load rfl rfl (by repeat (exact List.Mem.head _)) (by rfl)) rfl rfl rfl rfl ?_
   refine FA.op (O.call rfl Tryz.func64 rfl rfl rfl (hfi)) rfl rfl rfl rfl ?_
   refine FA.op (O.geq rfl rfl rfl (by exact bFalse (by omega))) rfl rfl rfl rfl ?_
   refine FA.op (O.pickF rfl rfl rfl) rfl rfl rfl rfl ?_
   refine FA.nil ?_
   simp only [chosen, List.nil_append, List.cons_append, List.append_nil]
   refine AO.nil ?_
   refine AQ.thenN ?_
   refine AW.split rfl (fun h50 => ?_) (fun h50 => ?_) <;> (try simp only [decide_eq_true_eq, decide_eq_false_iff_not, beq_iff_eq, beq_eq_false_iff_ne, bne_iff_ne, bne_eq_false_iff_eq, Bool.not_eq_true', Bool.not_eq_false', Bool.not_eq_true, Bool.not_eq_false, ne_eq, Int.not_lt, Int.not_le, Bool.and_eq_true, Bool.or_eq_true, Bool.or_eq_false_iff, Bool.and_eq_false_imp, strOf_toList, Decidable.not_not] at h50)
   ·skip
    exact absurd h50 (by simp)
   ·skip
    refine AW.skip ?_
    refine AQ.blockN ?_
    refine AQ.thenN ?_
    refine AW.region ?_
    refine AO.op (O.add rfl rfl rfl (by exact wI64 (by omega))) rfl rfl rfl ?_
    refine AO.op (O.move rfl rfl) rfl rfl rfl ?_
    refine AO.nil ?_
    refine AQ.loopKN _ _ _ (by omega) (⟨k + 1, by omega, rfl, rfl, rfl⟩) (by repeat (first | exact envNil | refine envCons rfl ?_)) (by repeat (first | exact envNil | refine envCons rfl ?_)) (by repeat (exact subPnil))
  ·skip
   obtain rfl : k = l.length := by omega
   refine AW.exit ?_
   refine AQ.thenX ?_
   refine AQ.loopX ?_
   refine AQ.blockX rfl ?_
   refine AQ.thenN ?_
   refine AW.seq ?_
   refine AW.region ?_
   refine AO.op (O.assign rfl rfl) rfl rfl rfl ?_
   refine AO.nil ?_
   refine AQ.thenN ?_
   refine AW.ret ?_
   refine AQ.ret1 rfl rfl ⟨_, List.nil_sublist _, .nil⟩ (⟨rfl, rfl⟩)
def keepB (peer : Int) (key : List UInt8) (anew : Bool) (now : Int) (p : Pt) : Bool := !(decide (p.till ≤ now) || (anew && (p.peer == peer) && (p.key == key)))
def keptL (l : List Pt) (peer : Int) (key : List UInt8) (anew : Bool) (now : Int) : List Pt := l.filter (keepB peer key anew now)
theorem fl_no {P : Pt → Bool} {l : List Pt} {k : Nat} (h : k < l.length) (hp : P (ptA l k) = false) : (l.take (k + 1)).filter P = (l.take k).filter P := by
 rw [take_snoc Pt.none h, List.filter_append, List.filter_cons_of_neg (by rw [hp]; simp), List.filter_nil, List.append_nil]
theorem fl_yes {P : Pt → Bool} {l : List Pt} {k : Nat} (h : k < l.length) (hp : P (ptA l k) = true) : (l.take (k + 1)).filter P = (l.take k).filter P ++ [ptA l k] := by
 rw [take_snoc Pt.none h, List.filter_append, List.filter_cons_of_pos hp, List.filter_nil]
theorem bkept_fn (l : List Pt) (peer : Int) (key : List UInt8) (anew : Bool) (now : Int) (hl : l.length ≤ 1000) (hb : ∀ i, i < l.length → (ptA l i).key.length ≤ 4096 ∧ (ptA l i).data.length ≤ 4096) : Sp Tryz.prog 63 [roPt l, .val (.int .i64 peer), roB key, .val (.bool anew), .val (.int .i64 now)] [] (NewRow 133 4 (keptL l peer key anew now).length (ptsA (keptL l peer key anew now))) := by
 refine Sp.enter Tryz.func63 rfl _ Tryz.ntmps63 rfl (fun w0 R0 => ?_)
 refine AW.seq ?_
 refine AW.region ?_
 refine AO.op (O.assign rfl rfl) rfl rfl rfl ?_
 refine AO.nil ?_
 refine AQ.thenN ?_
 refine AW.seq ?_
 refine AW.region ?_
 refine AO.op (O.assign rfl rfl) rfl rfl rfl ?_
 refine AO.nil ?_
 refine AQ.thenN ?_
 refine AW.seq ?_
 refine AW.seq ?_
 refine AW.region ?_
 refine AO.op (O.move rfl rfl) rfl rfl rfl ?_
 refine AO.op (O.lenR rfl rfl) rfl rfl rfl ?_
 refine AO.op (O.move rfl rfl) rfl rfl rfl ?_
 refine AO.nil ?_
 refine AQ.thenN ?_
 refine AW.block ?_
 refine AW.g ?_
 refine G.nilRow 133 4 ?_
 refine AW.u ?_
 refine AW.loopK [(1, _), (2, _), (3, _), (4, _), (14, _), (15, _)] (fun nn E H => ∃ (k : Nat) (V : Value), (k ≤ l.length) ∧ (V.oneCell' = true) ∧ nn = l.length - k ∧ E = [(11, .val V), (16, .val (.int .i64 (k : Int)))] ∧ H = [.row V 133 4 ((l.take k).filter (keepB peer key anew now)).length (ptsA ((l.take k).filter (keepB peer key anew now)))]) _ (⟨0, .slice none 0 0, by omega, rfl, rfl, rfl, rfl⟩) (by repeat (first | exact envNil | refine envCons rfl ?_)) (by repeat (first | exact envNil | refine envCons rfl ?_)) (by repeat (first | exact subPnil | refine subPcons 0 rfl ?_)) ?_
 rintro nn E H ⟨k, V, hk1, hV, rfl, rfl, rfl⟩
 dsimp only [List.cons_append, List.nil_append]
 have hll : ((l.take k).filter (keepB peer key anew now)).length ≤ k := Nat.le_trans (List.length_filter_le _ _) (by rw [List.length_take]; omega)
 refine AW.seq ?_
 refine AW.region ?_
 refine AO.op (O.lss rfl rfl rfl (by rfl)) rfl rfl rfl ?_
 refine AO.nil ?_
 refine AQ.thenN ?_
 refine AW.seq ?_
 refine AW.split rfl (fun hlt => ?_) (fun hlt => ?_) <;> (try simp only [decide_eq_true_eq, decide_eq_false_iff_not, beq_iff_eq, beq_eq_false_iff_ne, bne_iff_ne, bne_eq_false_iff_eq, Bool.not_eq_true', Bool.not_eq_false', Bool.not_eq_true, Bool.not_eq_false, ne_eq, Int.not_lt, Int.not_le, Bool.and_eq_true, Bool.or_eq_true, Bool.or_eq_false_iff, Bool.and_eq_false_imp, strOf_toList, Decidable.not_not] at hlt)
 ·skip
  have hk : k < l.length := by omega
  have hbk := hb k hk
  refine AW.skip ?_
  refine AQ.thenN ?_
  refine AW.seq ?_
  refine AW.block ?_
  refine AW.seq ?_
  refine AW.region ?_
  refine AO.op (O.idxR rfl rfl rfl ⟨(by omega), (by omega)⟩) rfl rfl rfl ?_
  refine AO.op (O.loadRK rfl rfl (by exact getPt hk (by omega)) (by rfl)) rfl rfl rfl ?_
  refine AO.opB (O.alloc rfl (by (dsimp only [List.set, List.append, List.cons_append, List.nil_append, roB_cells, roI_cells, roO_cells, roPt_cells, splice, ofConst, AV.cells, List.map, List.map_cons, List.map_nil, List.take, List.drop, Nat.zero_add, Nat.add_zero, Nat.reduceAdd, Nat.reduceMul, Nat.zero_mul, Value.cells, List.toList_toArray, zerosA, List.replicate, List.flatten, List.append_nil]; done)) (by rfl)) rfl rfl rfl ?_
  intro B1
  (refine AO.store (i := 0) rfl rfl rfl rfl rfl rfl (by rfl) (by rfl) (by rfl) (by (dsimp only [List.set, List.append, List.cons_append, List.nil_append, roB_cells, roI_cells, roO_cells, roPt_cells, splice, ofConst, AV.cells, List.map, List.map_cons, List.map_nil, List.take, List.drop, Nat.zero_add, Nat.add_zero, Nat.reduceAdd, Nat.reduceMul, Nat.zero_mul, Value.cells, List.toList_toArray, zerosA, List.replicate, List.flatten, List.append_nil]; done)) (by (dsimp only [List.set, List.append, List.cons_append, List.nil_append, roB_cells, roI_cells, roO_cells, roPt_cells, splice, ofConst, AV.cells, List.map, List.map_cons, List.map_nil, List.take, List.drop, Nat.zero_add, Nat.add_zero, Nat.reduceAdd, Nat.reduceMul, Nat.zero_mul, Value.cells, List.toList_toArray, zerosA, List.replicate, List.flatten, List.append_nil]; done)) ?_)
  refine AO.nil ?_
  refine AQ.thenN ?_
  refine AW.seq ?_
  refine AW.seq ?_
  refine AW.region ?_
  refine AO.op (O.fieldAddr rfl rfl) rfl rfl rfl ?_
  refine AO.op (O.load rfl rfl (by repeat (exact List.Mem.head _)) (by rfl)) rfl rfl rfl ?_
  refine AO.op (O.move rfl rfl) rfl rfl rfl ?_
  refine AO.op (O.leq rfl rfl rfl (by rfl)) rfl rfl rfl ?_
  refine AO.op (O.move rfl rfl) rfl rfl rfl ?_
  refine AO.opG rfl rfl rfl (fun hp => O.move rfl rfl) ?_
  refine AO.opG rfl rfl rfl (fun hp => OpW.force 25 rfl (by exact hp) (O.move rfl rfl)) ?_
  refine AO.opG rfl rfl rfl (fun hp => O.fieldAddr rfl rfl) ?_
  refine AO.opG rfl rfl rfl (fun hp => OpW.force 27 rfl (by exact hp) (O.load rfl rfl (by repeat (exact List.Mem.head _)) (by rfl))) ?_
  refine AO.opG rfl rfl rfl (fun hp => O.move rfl rfl) ?_
  refine AO.opG rfl rfl rfl (fun hp => OpW.force 28 rfl (by exact hp) (OpW.force 29 rfl (by exact hp) (O.eql rfl rfl rfl (by rfl)))) ?_
  refine AO.opG rfl rfl rfl (fun hp => OpW.force 26 rfl (by exact hp) (O.pickAnd rfl rfl rfl rfl (fun h => by simp_all))) ?_
  refine AO.opG rfl rfl rfl (fun hp => OpW.force 31 rfl (by exact hp) (O.move rfl rfl)) ?_
  refine AO.opG rfl rfl rfl (fun hp => O.fieldAddr rfl rfl) ?_
  refine AO.opG rfl rfl rfl (fun hp => OpW.force 33 rfl (by exact hp) (O.load rfl rfl (by repeat (exact List.Mem.head _)) (by rfl))) ?_
  refine AO.opG rfl rfl rfl (fun hp => O.move rfl rfl) ?_
  refine AO.opG rfl rfl rfl (fun hp => OpW.force 34 rfl (by exact hp) (OpW.force 35 rfl (by exact hp) (O.call rfl Tryz.func46 rfl rfl rfl (Ob.equal_fn _ _)))) ?_
  refine AO.opG rfl rfl rfl (fun hp => OpW.force 32 rfl (by exact hp) (O.pickAnd rfl rfl rfl rfl (fun h => by simp_all))) ?_
  refine AO.op (O.pickOr rfl rfl rfl rfl (fun h => by exact congrArg (fun b => !b) h)) rfl rfl rfl ?_
  refine AO.nil ?_
  refine AQ.thenN ?_
  refine AW.split rfl (fun h38 => ?_) (fun h38 => ?_) <;> (try simp only [decide_eq_true_eq, decide_eq_false_iff_not, beq_iff_eq, beq_eq_false_iff_ne, bne_iff_ne, bne_eq_false_iff_eq, Bool.not_eq_true', Bool.not_eq_false', Bool.not_eq_true, Bool.not_eq_false, ne_eq, Int.not_lt, Int.not_le, Bool.and_eq_true, Bool.or_eq_true, Bool.or_eq_false_iff, Bool.and_eq_false_imp, strOf_toList, Decidable.not_not] at h38)
  ·skip
   have hP : keepB peer key anew now (ptA l k) = false := by
    unfold keepB
    generalize ptA l k = p at h38 ⊢
    rcases h38 with h | ⟨⟨h1, h2⟩, h3⟩
    ·simp [h]
    ·simp [h1, h2, h3]
   rw [← fl_no hk hP]
   refine AW.exit ?_
   refine AQ.thenX ?_
   refine AQ.blockX rfl ?_
   refine AQ.thenN ?_
   refine AW.region ?_
   refine AO.op (O.add rfl rfl rfl (by exact wI64 (by omega))) rfl rfl rfl ?_
   refine AO.op (O.move rfl rfl) rfl rfl rfl ?_
   refine AO.nil ?_
   refine AQ.loopKN _ _ _ (by omega) (⟨k + 1, V, by omega, hV, rfl, rfl, rfl⟩) (by repeat (first | exact envNil | refine envCons rfl ?_)) (by repeat (first | exact envNil | refine envCons rfl ?_)) (by repeat (first | exact subPnil | refine subPcons 1 rfl ?_))
  ·skip
   have hP : keepB peer key anew now (ptA l k) = true := by
    unfold keepB
    simp only [Bool.not_eq_true', Bool.or_eq_false_iff, decide_eq_false_iff_not, Bool.and_eq_false_imp, Bool.and_eq_true, beq_iff_eq, beq_eq_false_iff_ne]
    exact ⟨by omega, fun h1 => h38.2 h1⟩
   have hgu : ptsA ((l.take (k + 1)).filter (keepB peer key anew now)) = ptsA ((l.take k).filter (keepB peer key anew now)) ++ cPt (ptA l k) := by rw [fl_yes hk hP, ptsA_snoc]
   have hgl : ((l.take (k + 1)).filter (keepB peer key anew now)).length = ((l.take k).filter (keepB peer key anew now)).length + 1 := by rw [fl_yes hk hP, List.length_append]; rfl
   refine AW.skip ?_
   refine AQ.thenN ?_
   refine AW.seq ?_
   refine AW.regionD 7 (by kernel_rfl) (by kernel_rfl) ?_
   simp only [List.take_succ_cons, List.take_zero, List.drop_succ_cons, List.drop_zero]
   refine FA.op (O.fieldAddr rfl rfl) rfl rfl rfl rfl ?_
   refine FA.op (O.load rfl rfl (by repeat (exact List.Mem.head _)) (by rfl)) rfl rfl rfl rfl ?_
   refine FA.op (O.call rfl Tryz.func49 rfl rfl rfl (clone_fn _ (by omega))) rfl rfl rfl rfl ?_
   refine FA.op (O.fieldAddr rfl rfl) rfl rfl rfl rfl ?_
   refine FA.op (O.load rfl rfl (by repeat (exact List.Mem.head _)) (by rfl)) rfl rfl rfl rfl ?_
   refine FA.op (O.call rfl Tryz.func49 rfl rfl rfl (clone_fn _ (by omega))) rfl rfl rfl rfl ?_
   refine FA.op (O.fieldAddr rfl rfl) rfl rfl rfl rfl ?_
   refine FA.nil ?_
   simp only [chosen, List.nil_append, List.cons_append, List.append_nil]
   (refine AO.store (i := 0) rfl rfl rfl rfl rfl rfl (by rfl) (by rfl) (by rfl) (by (dsimp only [List.set, List.append, List.cons_append, List.nil_append, roB_cells, roI_cells, roO_cells, roPt_cells, splice, ofConst, AV.cells, List.map, List.map_cons, List.map_nil, List.take, List.drop, Nat.zero_add, Nat.add_zero, Nat.reduceAdd, Nat.reduceMul, Nat.zero_mul, Value.cells, List.toList_toArray, zerosA, List.replicate, List.flatten, List.append_nil]; done)) (by (dsimp only [List.set, List.append, List.cons_append, List.nil_append, roB_cells, roI_cells, roO_cells, roPt_cells, splice, ofConst, AV.cells, List.map, List.map_cons, List.map_nil, List.take, List.drop, Nat.zero_add, Nat.add_zero, Nat.reduceAdd, Nat.reduceMul, Nat.zero_mul, Value.cells, List.toList_toArray, zerosA, List.replicate, List.flatten, List.append_nil]; done)) ?_)
   refine AO.op (O.fieldAddr rfl rfl) rfl rfl rfl ?_
   (refine AO.store (i := 0) rfl rfl rfl rfl rfl rfl (by rfl) (by rfl) (by rfl) (by (dsimp only [List.set, List.append, List.cons_append, List.nil_append, roB_cells, roI_cells, roO_cells, roPt_cells, splice, ofConst, AV.cells, List.map, List.map_cons, List.map_nil, List.take, List.drop, Nat.zero_add, Nat.add_zero, Nat.reduceAdd, Nat.reduceMul, Nat.zero_mul, Value.cells, List.toList_toArray, zerosA, List.replicate, List.flatten, List.append_nil]; done)) (by (dsimp only [List.set, List.append, List.cons_append, List.nil_append, roB_cells, roI_cells, roO_cells, roPt_cells, splice, ofConst, AV.cells, List.map, List.map_cons, List.map_nil, List.take, List.drop, Nat.zero_add, Nat.add_zero, Nat.reduceAdd, Nat.reduceMul, Nat.zero_mul, Value.cells, List.toList_toArray, zerosA, List.replicate, List.flatten, List.append_nil]; done)) ?_)
   refine AO.nil ?_
   refine AQ.thenN ?_
   refine AW.region ?_
   refine AO.op (O.move rfl rfl) rfl rfl rfl ?_
   refine AO.op (O.loadK rfl rfl (by repeat (exact List.Mem.head _)) (by rfl) (by rfl)) rfl rfl rfl ?_
   refine AO.opB (O.buildSlice rfl rfl rfl (by rfl) (by rfl) (by rfl) (by rfl)) rfl rfl rfl ?_
   intro B2
   refine AO.g ?_
   (refine G.freezeSl 0 49 rfl rfl ⟨Nat.le_refl _, by unfold maxLen; omega⟩ ?_)
   refine G.unfull 49 rfl ?_
   refine AO.u ?_
   dsimp only [List.eraseIdx]
   (refine AO.append' (i := 1) rfl rfl rfl rfl (by rfl) (by rfl) rfl rfl rfl (by exact SrcA.ro TyD.ax (by rfl) (Nat.le_of_ble_eq_true rfl)) (by rfl) (by (unfold maxLen; omega)) (by omega) (by (dsimp only [List.set, List.append, List.cons_append, List.nil_append, roB_cells, roI_cells, roO_cells, roPt_cells, splice, ofConst, AV.cells, List.map, List.map_cons, List.map_nil, List.take, List.drop, Nat.zero_add, Nat.add_zero, Nat.reduceAdd, Nat.reduceMul, Nat.zero_mul, Value.cells, List.toList_toArray, zerosA, List.replicate, List.flatten, List.append_nil]; done)) (fun _ => by (dsimp only [List.set]; done)) ?_)
   intro V3 hV3
   refine AO.op (O.assign rfl rfl) rfl rfl rfl ?_
   refine AO.nil ?_
   refine AQ.blockN ?_
   refine AQ.thenN ?_
   refine AW.region ?_
   refine AO.op (O.add rfl rfl rfl (by exact wI64 (by omega))) rfl rfl rfl ?_
   refine AO.op (O.move rfl rfl) rfl rfl rfl ?_
   refine AO.nil ?_
   rw [← hgl, show ptsA ((l.take k).filter (keepB peer key anew now)) ++ _ = _ from hgu.symm]
   refine AQ.loopKN _ _ _ (by omega) (⟨k + 1, _, by omega, ‹_›, rfl, rfl, rfl⟩) (by repeat (first | exact envNil | refine envCons rfl ?_)) (by repeat (first | exact envNil | refine envCons rfl ?_)) (by repeat (first | exact subPnil | refine subPcons 1 rfl ?_))
 ·skip
  obtain rfl : k = l.length := by omega
  rw [List.take_length]
  refine AW.exit ?_
  refine AQ.thenX ?_
  refine AQ.loopX ?_
  refine AQ.blockX rfl ?_
  refine AQ.thenN ?_
  refine AW.seq ?_
  refine AW.region ?_
  refine AO.op (O.move rfl rfl) rfl rfl rfl ?_
  refine AO.op (O.assign rfl rfl) rfl rfl rfl ?_
  refine AO.nil ?_
  refine AQ.thenN ?_
  refine AW.ret ?_
  refine AQ.ret1 rfl rfl ⟨_, by repeat (first | exact List.Sublist.slnil | refine List.Sublist.cons_cons _ ?_), List.Perm.refl _⟩ (⟨V, rfl, hV, rfl⟩)
end Go.Proofs.YtoonnnifelnaiaaGreatDoor.By

namespace Go.Proofs.YtoonnnifelnaiaaGreatDoor.By
open Go.RowKit L A
set_option linter.unusedVariables false
set_option maxRecDepth 20000
set_option linter.unusedSimpArgs false
attribute [local irreducible] AW AQ AO
theorem cloneB_fn (l : List UInt8) (hl : l.length ≤ 1000000) : Sp Tryz.prog 49 [roB l] [] (NewRow 5 1 l.length (bytesA l)) := by
 refine Sp.enter Tryz.func49 rfl _ Tryz.ntmps49 rfl (fun w0 R0 => ?_)
 refine AW.seq ?_
 refine AW.region ?_
 refine AO.op (O.assign rfl rfl) rfl rfl rfl ?_
 refine AO.nil ?_
 refine AQ.thenN ?_
 refine AW.seq ?_
 refine AW.seq ?_
 refine AW.region ?_
 refine AO.op (O.move rfl rfl) rfl rfl rfl ?_
 refine AO.opN (O.eqlNil rfl rfl rfl) rfl rfl rfl ?_
 rintro _ _ ⟨c1, rfl, rfl, hnil1⟩
 simp only [List.cons_append, List.nil_append]
 refine AO.nil ?_
 refine AQ.thenN ?_
 refine AW.split rfl (fun h => ?_) (fun h => ?_)
 ·skip
  obtain rfl : l = [] := List.eq_nil_of_length_eq_zero (by exact hnil1 (by simp [h]))
  refine AW.seq ?_
  refine AW.region ?_
  refine AO.op (O.assign rfl rfl) rfl rfl rfl ?_
  refine AO.nil ?_
  refine AQ.thenN ?_
  refine AW.ret ?_
  refine AQ.thenR ?_
  refine AQ.g ?_
  refine G.nilRow 5 1 ?_
  refine AQ.u ?_
  refine AQ.ret1 rfl rfl ⟨_, by repeat (first | exact List.Sublist.slnil | refine List.Sublist.cons_cons _ ?_), List.Perm.refl _⟩ (⟨_, rfl, rfl, rfl⟩)
 ·skip
  refine AW.skip ?_
  refine AQ.thenN ?_
  refine AW.seq ?_
  refine AW.region ?_
  refine AO.opRow (O.buildSlice0 rfl) rfl rfl rfl ?_
  intro V2 hV2
  refine AO.op (O.move rfl rfl) rfl rfl rfl ?_
  (refine AO.append' (i := 0) rfl rfl rfl rfl (by rfl) (by rfl) rfl rfl rfl (by exact SrcA.ro TyD.ax (by (simp; done)) (Nat.le_of_ble_eq_true rfl)) (by (simp [AV.cells, AV.one, *]; done)) (by (unfold maxLen; omega)) (by omega) (by (dsimp only [List.set, List.cons_append, List.nil_append, List.take, List.drop]; done)) (fun _ => by (dsimp only [List.set]; done)) ?_)
  intro V3 hV3
  refine AO.op (O.assign rfl rfl) rfl rfl rfl ?_
  refine AO.nil ?_
  refine AQ.thenN ?_
  refine AW.ret ?_
  rw [Nat.zero_add]
  refine AQ.ret1 rfl rfl ⟨_, by repeat (first | exact List.Sublist.slnil | refine List.Sublist.cons_cons _ ?_), List.Perm.refl _⟩ (⟨V3, rfl, hV3, rfl⟩)
theorem bput1_fn (sz now : Int) (pay : List UInt8) (hs : 0 ≤ sz ∧ sz ≤ 2) (hnow : 0 ≤ now ∧ now ≤ 1000000) (hp : pay.length ≤ szN sz) :
  Sp Tryz.prog 28 [roPt [], .val (.int .i64 0), roB [], blkA 0 false sz, roB pay, .val (.int .i64 now)] [] (Is (.tup [roPt [], roB pay, .val (.bool true), .val (.int .i64 0)])) := by
 have hva : Sp Tryz.prog 62 [roPt []] [] (Is (.val (.bool true))) := bvalid_fn [] valP_nil
 have hkp : ∀ an, Sp Tryz.prog 63 [roPt [], .val (.int .i64 0), roB [], .val (.bool an), .val (.int .i64 now)] [] (NewRow 133 4 0 []) := fun an => bkept_fn [] 0 [] an now (by simp) (fun i h => by cases h)
 have hfi : Sp Tryz.prog 64 [.ro false 0 [], .val (.int .i64 0), roB []] [] (Is (.val (.int .i64 (-1)))) := bfind_fn [] 0 [] (by simp)
 have hsz := szN_in hs
 have hbl := blen_fn sz hs
 generalize szN sz = n at *
 refine Sp.enter Tryz.func28 rfl _ Tryz.ntmps28 rfl (fun w0 R0 => ?_)
 refine AW.seq ?_
 refine AW.region ?_
 refine AO.opB (O.box rfl rfl rfl rfl rfl) rfl rfl rfl ?_
 intro B1
 refine AO.op (O.assign rfl rfl) rfl rfl rfl ?_
 refine AO.op (O.assign rfl rfl) rfl rfl rfl ?_
 refine AO.op (O.assign rfl rfl) rfl rfl rfl ?_
 refine AO.op (O.assign rfl rfl) rfl rfl rfl ?_
 refine AO.nil ?_
 refine AQ.thenN ?_
 refine AW.seq ?_
 refine AW.seq ?_
 refine AW.region ?_
 refine AO.op (O.move rfl rfl) rfl rfl rfl ?_
 refine AO.op (O.call rfl Tryz.func62 rfl rfl rfl (hva)) rfl rfl rfl ?_
 refine AO.op (O.not rfl rfl (by rfl)) rfl rfl rfl ?_
 refine AO.op (O.move rfl rfl) rfl rfl rfl ?_
 refine AO.op (O.move rfl rfl) rfl rfl rfl ?_
 refine AO.op (O.lss rfl rfl rfl (by exact bFalse (by omega))) rfl rfl rfl ?_
 refine AO.op (O.pickF rfl rfl rfl) rfl rfl rfl ?_
 refine AO.op (O.move rfl rfl) rfl rfl rfl ?_
 refine AO.op (O.move rfl rfl) rfl rfl rfl ?_
 refine AO.op (O.gtr rfl rfl rfl (by exact bFalse (by omega))) rfl rfl rfl ?_
 refine AO.op (O.pickF rfl rfl rfl) rfl rfl rfl ?_
 refine AO.op (O.move rfl rfl) rfl rfl rfl ?_
 refine AO.op (O.move rfl rfl) rfl rfl rfl ?_
 refine AO.op (O.lenR rfl rfl) rfl rfl rfl ?_
 refine AO.op (O.gtr rfl rfl rfl (by rfl)) rfl rfl rfl ?_
 refine AO.op (O.pickF rfl rfl rfl) rfl rfl rfl ?_
 refine AO.op (O.move rfl rfl) rfl rfl rfl ?_
 (refine AO.op (O.loadK rfl rfl (by repeat (exact List.Mem.head _)) (by (dsimp only [List.set, List.cons_append, List.nil_append, List.take, List.drop]; done)) (by rfl)) rfl rfl rfl ?_)
 refine AO.op (O.call rfl Tryz.func60 rfl rfl rfl (bsound_fn _ _ _ ⟨by omega, by omega⟩ ⟨by omega, by omega⟩)) rfl rfl rfl ?_
 refine AO.op (O.not rfl rfl (by rfl)) rfl rfl rfl ?_
 refine AO.op (O.pickF rfl rfl rfl) rfl rfl rfl ?_
 refine AO.op (O.move rfl rfl) rfl rfl rfl ?_
 refine AO.op (O.move rfl rfl) rfl rfl rfl ?_
 refine AO.op (O.lss rfl rfl rfl (by exact bFalse (by omega))) rfl rfl rfl ?_
 refine AO.op (O.pickF rfl rfl rfl) rfl rfl rfl ?_
 refine AO.op (O.move rfl rfl) rfl rfl rfl ?_
 refine AO.op (O.move rfl rfl) rfl rfl rfl ?_
 refine AO.op (O.gtr rfl rfl rfl (by exact bFalse (by omega))) rfl rfl rfl ?_
 refine AO.op (O.pickF rfl rfl rfl) rfl rfl rfl ?_
 refine AO.nil ?_
 refine AQ.thenN ?_
 refine AW.split rfl (fun h47 => ?_) (fun h47 => ?_) <;> (try simp only [decide_eq_true_eq, decide_eq_false_iff_not, beq_iff_eq, beq_eq_false_iff_ne, bne_iff_ne, bne_eq_false_iff_eq, Bool.not_eq_true', Bool.not_eq_false', Bool.not_eq_true, Bool.not_eq_false, ne_eq, Int.not_lt, Int.not_le, Bool.and_eq_true, Bool.or_eq_true, Bool.or_eq_false_iff, Bool.and_eq_false_imp, strOf_toList, Decidable.not_not] at h47)
 ·skip
  exact absurd h47 (by simp)
 ·skip
  refine AW.skip ?_
  refine AQ.thenN ?_
  refine AW.seq ?_
  refine AW.region ?_
  refine AO.op (O.fieldAddr rfl rfl) rfl rfl rfl ?_
  refine AO.op (O.load rfl rfl (by repeat (exact List.Mem.head _)) (by rfl)) rfl rfl rfl ?_
  refine AO.op (O.call rfl Tryz.func61 rfl rfl rfl (hbl)) rfl rfl rfl ?_
  refine AO.op (O.assign rfl rfl) rfl rfl rfl ?_
  refine AO.nil ?_
  refine AQ.thenN ?_
  refine AW.seq ?_
  refine AW.seq ?_
  refine AW.region ?_
  refine AO.op (O.fieldAddr rfl rfl) rfl rfl rfl ?_
  refine AO.op (O.load rfl rfl (by repeat (exact List.Mem.head _)) (by rfl)) rfl rfl rfl ?_
  refine AO.op (O.move rfl rfl) rfl rfl rfl ?_
  refine AO.no rfl rfl rfl ?_
  refine AO.no rfl rfl rfl ?_
  refine AO.no rfl rfl rfl ?_
  refine AO.no rfl rfl rfl ?_
  refine AO.op (O.pickF rfl rfl rfl) rfl rfl rfl ?_
  refine AO.op (O.move rfl rfl) rfl rfl rfl ?_
  refine AO.op (O.fieldAddr rfl rfl) rfl rfl rfl ?_
  refine AO.op (O.load rfl rfl (by repeat (exact List.Mem.head _)) (by rfl)) rfl rfl rfl ?_
  refine AO.op (O.not rfl rfl (by rfl)) rfl rfl rfl ?_
  refine AO.op (O.move rfl rfl) rfl rfl rfl ?_
  refine AO.op (O.move rfl rfl) rfl rfl rfl ?_
  refine AO.op (O.lenR rfl rfl) rfl rfl rfl ?_
  refine AO.op (O.move rfl rfl) rfl rfl rfl ?_
  refine AO.op (O.gtr rfl rfl rfl (by exact bFalse (by omega))) rfl rfl rfl ?_
  refine AO.op (O.move rfl rfl) rfl rfl rfl ?_
  refine AO.op (O.move rfl rfl) rfl rfl rfl ?_
  refine AO.op (O.lenR rfl rfl) rfl rfl rfl ?_
  refine AO.op (O.eql rfl rfl rfl (by rfl)) rfl rfl rfl ?_
  refine AO.op (O.move rfl rfl) rfl rfl rfl ?_
  refine AO.opG rfl rfl rfl (fun hp => O.fieldAddr rfl rfl) ?_
  refine AO.opG rfl rfl rfl (fun hp => OpW.force 73 rfl (by exact hp) (O.load rfl rfl (by repeat (exact List.Mem.head _)) (by rfl))) ?_
  refine AO.opG rfl rfl rfl (fun hp => OpW.force 74 rfl (by exact hp) (O.gtr rfl rfl rfl (by exact bFalse (by omega)))) ?_
  refine AO.op (O.pickAnd rfl rfl rfl rfl (fun h => by exact h)) rfl rfl rfl ?_
  refine AO.op (O.pickF rfl rfl rfl) rfl rfl rfl ?_
  refine AO.op (O.pickT rfl rfl rfl) rfl rfl rfl ?_
  refine AO.op (O.pickF rfl rfl rfl) rfl rfl rfl ?_
  refine AO.nil ?_
  refine AQ.thenN ?_
  refine AW.split rfl (fun h79 => ?_) (fun h79 => ?_) <;> (try simp only [decide_eq_true_eq, decide_eq_false_iff_not, beq_iff_eq, beq_eq_false_iff_ne, bne_iff_ne, bne_eq_false_iff_eq, Bool.not_eq_true', Bool.not_eq_false', Bool.not_eq_true, Bool.not_eq_false, ne_eq, Int.not_lt, Int.not_le, Bool.and_eq_true, Bool.or_eq_true, Bool.or_eq_false_iff, Bool.and_eq_false_imp, strOf_toList, Decidable.not_not] at h79)
  ·skip
   exact absurd h79.2 (by simp)
  ·skip
   refine AW.skip ?_
   refine AQ.thenN ?_
   refine AW.seq ?_
   refine AW.region ?_
   refine AO.op (O.move rfl rfl) rfl rfl rfl ?_
   refine AO.op (O.move rfl rfl) rfl rfl rfl ?_
   refine AO.op (O.move rfl rfl) rfl rfl rfl ?_
   refine AO.op (O.fieldAddr rfl rfl) rfl rfl rfl ?_
   refine AO.op (O.load rfl rfl (by repeat (exact List.Mem.head _)) (by rfl)) rfl rfl rfl ?_
   refine AO.op (O.eql rfl rfl rfl (by exact beq_iff_eq.2 (by omega))) rfl rfl rfl ?_
   refine AO.op (O.move rfl rfl) rfl rfl rfl ?_
   refine AO.opRow (O.call rfl Tryz.func63 rfl rfl rfl (hkp _)) rfl rfl rfl ?_
   intro V2 hV2
   refine AO.op (O.assign rfl rfl) rfl rfl rfl ?_
   refine AO.nil ?_
   refine AQ.thenN ?_
   refine AW.seq ?_
   refine AW.region ?_
   refine AO.op (O.move rfl rfl) rfl rfl rfl ?_
   refine AO.op (O.move rfl rfl) rfl rfl rfl ?_
   refine AO.op (O.move rfl rfl) rfl rfl rfl ?_
   (refine AO.op (O.callL rfl Tryz.func64 rfl rfl rfl (by repeat (exact List.Mem.head _)) (hfi) (by (repeat (first | exact LendL.nil | refine LendL.same ?_ | refine LendL.lend ?_)); done)) rfl rfl rfl ?_)
   refine AO.op (O.assign rfl rfl) rfl rfl rfl ?_
   refine AO.nil ?_
   refine AQ.thenN ?_
   refine AW.seq ?_
   refine AW.region ?_
   refine AO.op (O.assign rfl rfl) rfl rfl rfl ?_
   refine AO.nil ?_
   refine AQ.thenN ?_
   refine AW.seq ?_
   refine AW.seq ?_
   refine AW.region ?_
   refine AO.op (O.fieldAddr rfl rfl) rfl rfl rfl ?_
   refine AO.op (O.load rfl rfl (by repeat (first | exact List.Mem.head _ | refine List.Mem.tail _ ?_)) (by rfl)) rfl rfl rfl ?_
   refine AO.op (O.gtr rfl rfl rfl (by exact bFalse (by omega))) rfl rfl rfl ?_
   refine AO.nil ?_
   refine AQ.thenN ?_
   refine AW.split rfl (fun h94 => ?_) (fun h94 => ?_) <;> (try simp only [decide_eq_true_eq, decide_eq_false_iff_not, beq_iff_eq, beq_eq_false_iff_ne, bne_iff_ne, bne_eq_false_iff_eq, Bool.not_eq_true', Bool.not_eq_false', Bool.not_eq_true, Bool.not_eq_false, ne_eq, Int.not_lt, Int.not_le, Bool.and_eq_true, Bool.or_eq_true, Bool.or_eq_false_iff, Bool.and_eq_false_imp, strOf_toList, Decidable.not_not] at h94)
   ·skip
    exact absurd h94 (by simp)
   ·skip
    refine AW.skip ?_
    refine AQ.thenN ?_
    refine AW.seq ?_
    refine AW.seq ?_
    refine AW.region ?_
    refine AO.op (O.move rfl rfl) rfl rfl rfl ?_
    refine AO.op (O.lenV rfl rfl) rfl rfl rfl ?_
    refine AO.op (O.move rfl rfl) rfl rfl rfl ?_
    refine AO.op (O.lenR rfl rfl) rfl rfl rfl ?_
    refine AO.op (O.add rfl rfl rfl (by exact wI64 (by omega))) rfl rfl rfl ?_
    refine AO.op (O.gtr rfl rfl rfl (by exact bFalse (by omega))) rfl rfl rfl ?_
    refine AO.nil ?_
    refine AQ.thenN ?_
    refine AW.split rfl (fun h120 => ?_) (fun h120 => ?_) <;> (try simp only [decide_eq_true_eq, decide_eq_false_iff_not, beq_iff_eq, beq_eq_false_iff_ne, bne_iff_ne, bne_eq_false_iff_eq, Bool.not_eq_true', Bool.not_eq_false', Bool.not_eq_true, Bool.not_eq_false, ne_eq, Int.not_lt, Int.not_le, Bool.and_eq_true, Bool.or_eq_true, Bool.or_eq_false_iff, Bool.and_eq_false_imp, strOf_toList, Decidable.not_not] at h120)
    ·skip
     exact absurd h120 (by simp)
    ·skip
     refine AW.skip ?_
     refine AQ.thenN ?_
     refine AW.seq ?_
     refine AW.region ?_
     refine AO.op (O.move rfl rfl) rfl rfl rfl ?_
     (refine AO.opRow (O.callC rfl Tryz.func49 rfl rfl rfl (cloneB_fn [] (by simp)) (by (repeat (first | exact CoeL.nil | refine CoeL.cons Coe.nil ?_)); done)) rfl rfl rfl ?_)
     intro V3 hV3
     refine AO.op (O.move rfl rfl) rfl rfl rfl ?_
     (refine AO.append' (i := 0) rfl rfl rfl rfl (by rfl) (by rfl) rfl rfl rfl (by exact SrcA.ro TyD.ax (by (simp; done)) (Nat.le_of_ble_eq_true rfl)) (by (simp [AV.cells, AV.one, *]; done)) (by (unfold maxLen; simp only [List.length_take, List.length_drop, List.length_append, List.length_cons, List.length_nil, List.length_set, Nat.zero_add]; omega)) (by (simp only [List.length_take, List.length_drop, List.length_append, List.length_cons, List.length_nil, List.length_set, Nat.zero_add]; omega)) (by (dsimp only [List.set, List.cons_append, List.nil_append, List.take, List.drop]; done)) (fun _ => by (dsimp only [List.set]; done)) ?_)
     intro V4 hV4
     refine AO.op (O.assign rfl rfl) rfl rfl rfl ?_
     refine AO.nil ?_
     refine AQ.thenN ?_
     refine AW.seq ?_
     refine AW.block ?_
     refine AW.seq ?_
     refine AW.region ?_
     refine AO.op (O.fieldAddr rfl rfl) rfl rfl rfl ?_
     refine AO.op (O.load rfl rfl (by repeat (first | exact List.Mem.head _ | refine List.Mem.tail _ ?_)) (by rfl)) rfl rfl rfl ?_
     refine AO.op (O.not rfl rfl (by rfl)) rfl rfl rfl ?_
     refine AO.op (O.move rfl rfl) rfl rfl rfl ?_
     refine AO.op (O.move rfl rfl) rfl rfl rfl ?_
     refine AO.op (O.geq rfl rfl rfl (by exact bFalse (by omega))) rfl rfl rfl ?_
     refine AO.op (O.pickT rfl rfl rfl) rfl rfl rfl ?_
     refine AO.op (O.assign rfl rfl) rfl rfl rfl ?_
     refine AO.nil ?_
     refine AQ.thenN ?_
     refine AW.split rfl (fun h125 => ?_) (fun h125 => ?_) <;> (try simp only [decide_eq_true_eq, decide_eq_false_iff_not, beq_iff_eq, beq_eq_false_iff_ne, bne_iff_ne, bne_eq_false_iff_eq, Bool.not_eq_true', Bool.not_eq_false', Bool.not_eq_true, Bool.not_eq_false, ne_eq, Int.not_lt, Int.not_le, Bool.and_eq_true, Bool.or_eq_true, Bool.or_eq_false_iff, Bool.and_eq_false_imp, strOf_toList, Decidable.not_not] at h125)
     ·skip
      exact absurd h125 (by simp)
     ·skip
      refine AW.seq ?_
      refine AW.region ?_
      refine AO.op (O.fieldAddr rfl rfl) rfl rfl rfl ?_
      refine AO.op (O.load rfl rfl (by repeat (first | exact List.Mem.head _ | refine List.Mem.tail _ ?_)) (by rfl)) rfl rfl rfl ?_
      refine AO.op (O.not rfl rfl (by rfl)) rfl rfl rfl ?_
      refine AO.op (O.assign rfl rfl) rfl rfl rfl ?_
      refine AO.nil ?_
      refine AQ.thenN ?_
      refine AW.split rfl (fun h142 => ?_) (fun h142 => ?_) <;> (try simp only [decide_eq_true_eq, decide_eq_false_iff_not, beq_iff_eq, beq_eq_false_iff_ne, bne_iff_ne, bne_eq_false_iff_eq, Bool.not_eq_true', Bool.not_eq_false', Bool.not_eq_true, Bool.not_eq_false, ne_eq, Int.not_lt, Int.not_le, Bool.and_eq_true, Bool.or_eq_true, Bool.or_eq_false_iff, Bool.and_eq_false_imp, strOf_toList, Decidable.not_not] at h142)
      ·skip
       refine AW.seq ?_
       refine AW.region ?_
       refine AO.op (O.move rfl rfl) rfl rfl rfl ?_
       refine AO.op (O.move rfl rfl) rfl rfl rfl ?_
       refine AO.op (O.assign rfl rfl) rfl rfl rfl ?_
       refine AO.op (O.assign rfl rfl) rfl rfl rfl ?_
       refine AO.op (O.assign rfl rfl) rfl rfl rfl ?_
       refine AO.op (O.assign rfl rfl) rfl rfl rfl ?_
       refine AO.nil ?_
       refine AQ.thenN ?_
       refine AW.ret ?_
       refine AQ.blockR ?_
       refine AQ.thenR ?_
       rw [show bytesA [] ++ bytesA pay = bytesA pay from rfl, show ([] : List UInt8).length + pay.length = pay.length from Nat.zero_add _]
       refine AQ.g ?_
       (refine G.freezeRow 0 rfl [13] (by (repeat (first | exact frNil | refine frCons rfl ?_)); done) ?_)
       refine AQ.u ?_
       try dsimp only [List.map, List.eraseIdx, List.cons_append, List.nil_append]
       refine AQ.g ?_
       (refine G.freezeRow 0 rfl [12] (by (repeat (first | exact frNil | refine frCons rfl ?_)); done) ?_)
       refine AQ.u ?_
       try dsimp only [List.map, List.eraseIdx, List.cons_append, List.nil_append]
       refine FnQ.coe (AQ.ret4G rfl (by exact ResAt.tmp rfl) (by exact ResAt.tmp rfl) (by exact ResAt.tmp rfl) (by exact ResAt.tmp rfl) ⟨_, List.nil_sublist _, .nil⟩ ⟨rfl, rfl⟩) (Coe.tup (by (repeat (first | exact CoeL.nil | refine CoeL.cons Coe.rfl ?_)); done)) (⟨rfl, rfl⟩)
      ·skip
       exact absurd h142 (by simp)
theorem bput2_fn (sz now : Int) (pay : List UInt8) (mo : Bool) (hmo : mo = true) (hs : 0 ≤ sz ∧ sz ≤ 2) (hnow : 0 ≤ now ∧ now ≤ 1000000) (hp : pay.length = szN sz) :
  Sp Tryz.prog 28 [roPt [], .val (.int .i64 0), roB [], blkA 0 mo sz, roB pay, .val (.int .i64 now)] [] (Is (.tup [roPt [⟨0, [], pay, now + 128⟩], roB [], .val (.bool false), .val (.int .i64 0)])) := by
 have hva : Sp Tryz.prog 62 [roPt []] [] (Is (.val (.bool true))) := bvalid_fn [] valP_nil
 have hkp : ∀ an, Sp Tryz.prog 63 [roPt [], .val (.int .i64 0), roB [], .val (.bool an), .val (.int .i64 now)] [] (NewRow 133 4 0 []) := fun an => bkept_fn [] 0 [] an now (by simp) (fun i h => by cases h)
 have hfi : Sp Tryz.prog 64 [.ro false 0 [], .val (.int .i64 0), roB []] [] (Is (.val (.int .i64 (-1)))) := bfind_fn [] 0 [] (by simp)
 have hsz := szN_in hs
 have hbl := blen_fn sz hs
 generalize szN sz = n at *
 refine Sp.enter Tryz.func28 rfl _ Tryz.ntmps28 rfl (fun w0 R0 => ?_)
 refine AW.seq ?_
 refine AW.region ?_
 refine AO.opB (O.box rfl rfl rfl rfl rfl) rfl rfl rfl ?_
 intro B1
 refine AO.op (O.assign rfl rfl) rfl rfl rfl ?_
 refine AO.op (O.assign rfl rfl) rfl rfl rfl ?_
 refine AO.op (O.assign rfl rfl) rfl rfl rfl ?_
 refine AO.op (O.assign rfl rfl) rfl rfl rfl ?_
 refine AO.nil ?_
 refine AQ.thenN ?_
 refine AW.seq ?_
 refine AW.seq ?_
 refine AW.region ?_
 refine AO.op (O.move rfl rfl) rfl rfl rfl ?_
 refine AO.op (O.call rfl Tryz.func62 rfl rfl rfl (hva)) rfl rfl rfl ?_
 refine AO.op (O.not rfl rfl (by rfl)) rfl rfl rfl ?_
 refine AO.op (O.move rfl rfl) rfl rfl rfl ?_
 refine AO.op (O.move rfl rfl) rfl rfl rfl ?_
 refine AO.op (O.lss rfl rfl rfl (by exact bFalse (by omega))) rfl rfl rfl ?_
 refine AO.op (O.pickF rfl rfl rfl) rfl rfl rfl ?_
 refine AO.op (O.move rfl rfl) rfl rfl rfl ?_
 refine AO.op (O.move rfl rfl) rfl rfl rfl ?_
 refine AO.op (O.gtr rfl rfl rfl (by exact bFalse (by omega))) rfl rfl rfl ?_
 refine AO.op (O.pickF rfl rfl rfl) rfl rfl rfl ?_
 refine AO.op (O.move rfl rfl) rfl rfl rfl ?_
 refine AO.op (O.move rfl rfl) rfl rfl rfl ?_
 refine AO.op (O.lenR rfl rfl) rfl rfl rfl ?_
 refine AO.op (O.gtr rfl rfl rfl (by rfl)) rfl rfl rfl ?_
 refine AO.op (O.pickF rfl rfl rfl) rfl rfl rfl ?_
 refine AO.op (O.move rfl rfl) rfl rfl rfl ?_
 (refine AO.op (O.loadK rfl rfl (by repeat (exact List.Mem.head _)) (by (dsimp only [List.set, List.cons_append, List.nil_append, List.take, List.drop]; done)) (by rfl)) rfl rfl rfl ?_)
 refine AO.op (O.call rfl Tryz.func60 rfl rfl rfl (bsound_fn _ _ _ ⟨by omega, by omega⟩ ⟨by omega, by omega⟩)) rfl rfl rfl ?_
 refine AO.op (O.not rfl rfl (by rfl)) rfl rfl rfl ?_
 refine AO.op (O.pickF rfl rfl rfl) rfl rfl rfl ?_
 refine AO.op (O.move rfl rfl) rfl rfl rfl ?_
 refine AO.op (O.move rfl rfl) rfl rfl rfl ?_
 refine AO.op (O.lss rfl rfl rfl (by exact bFalse (by omega))) rfl rfl rfl ?_
 refine AO.op (O.pickF rfl rfl rfl) rfl rfl rfl ?_
 refine AO.op (O.move rfl rfl) rfl rfl rfl ?_
 refine AO.op (O.move rfl rfl) rfl rfl rfl ?_
 refine AO.op (O.gtr rfl rfl rfl (by exact bFalse (by omega))) rfl rfl rfl ?_
 refine AO.op (O.pickF rfl rfl rfl) rfl rfl rfl ?_
 refine AO.nil ?_
 refine AQ.thenN ?_
 refine AW.split rfl (fun h47 => ?_) (fun h47 => ?_) <;> (try simp only [decide_eq_true_eq, decide_eq_false_iff_not, beq_iff_eq, beq_eq_false_iff_ne, bne_iff_ne, bne_eq_false_iff_eq, Bool.not_eq_true', Bool.not_eq_false', Bool.not_eq_true, Bool.not_eq_false, ne_eq, Int.not_lt, Int.not_le, Bool.and_eq_true, Bool.or_eq_true, Bool.or_eq_false_iff, Bool.and_eq_false_imp, strOf_toList, Decidable.not_not] at h47)
 ·skip
  exact absurd h47 (by simp)
 ·skip
  refine AW.skip ?_
  refine AQ.thenN ?_
  refine AW.seq ?_
  refine AW.region ?_
  refine AO.op (O.fieldAddr rfl rfl) rfl rfl rfl ?_
  refine AO.op (O.load rfl rfl (by repeat (exact List.Mem.head _)) (by rfl)) rfl rfl rfl ?_
  refine AO.op (O.call rfl Tryz.func61 rfl rfl rfl (hbl)) rfl rfl rfl ?_
  refine AO.op (O.assign rfl rfl) rfl rfl rfl ?_
  refine AO.nil ?_
  refine AQ.thenN ?_
  refine AW.seq ?_
  refine AW.seq ?_
  refine AW.region ?_
  refine AO.op (O.fieldAddr rfl rfl) rfl rfl rfl ?_
  refine AO.op (O.load rfl rfl (by repeat (exact List.Mem.head _)) (by rfl)) rfl rfl rfl ?_
  refine AO.op (O.move rfl rfl) rfl rfl rfl ?_
  refine AO.opG rfl rfl rfl (fun hp => O.move rfl rfl) ?_
  refine AO.opG rfl rfl rfl (fun hp => OpW.force 54 rfl (by exact hp) (O.lenR rfl rfl)) ?_
  refine AO.opG rfl rfl rfl (fun hp => O.move rfl rfl) ?_
  refine AO.opG rfl rfl rfl (fun hp => OpW.force 55 rfl (by exact hp) (OpW.force 56 rfl (by exact hp) (O.neq rfl rfl rfl (by exact bne_eq_false_iff_eq.2 (by omega))))) ?_
  refine AO.op (O.pickAnd rfl rfl rfl rfl (fun h => by exact h)) rfl rfl rfl ?_
  refine AO.op (O.move rfl rfl) rfl rfl rfl ?_
  refine AO.opG rfl rfl rfl (fun hp => O.fieldAddr rfl rfl) ?_
  refine AO.opG rfl rfl rfl (fun hp => OpW.force 60 rfl (by exact hp) (O.load rfl rfl (by repeat (exact List.Mem.head _)) (by rfl))) ?_
  refine AO.opG rfl rfl rfl (fun hp => OpW.force 61 rfl (by exact hp) (O.not rfl rfl (by rfl))) ?_
  refine AO.opG rfl rfl rfl (fun hp => OpW.force 62 rfl (by exact hp) (O.move rfl rfl)) ?_
  refine AO.opG rfl rfl rfl (fun hp => O.move rfl rfl) ?_
  refine AO.opG rfl rfl rfl (fun hp => OpW.force 64 rfl (by exact hp) (O.lenR rfl rfl)) ?_
  refine AO.opG rfl rfl rfl (fun hp => O.move rfl rfl) ?_
  refine AO.opG rfl rfl rfl (fun hp => OpW.force 65 rfl (by exact hp) (OpW.force 66 rfl (by exact hp) (O.gtr rfl rfl rfl (by exact bFalse (by omega))))) ?_
  refine AO.opG rfl rfl rfl (fun hp => OpW.force 67 rfl (by exact hp) (O.move rfl rfl)) ?_
  refine AO.opG rfl rfl rfl (fun hp => O.move rfl rfl) ?_
  refine AO.opG rfl rfl rfl (fun hp => OpW.force 69 rfl (by exact hp) (O.lenR rfl rfl)) ?_
  refine AO.opG rfl rfl rfl (fun hp => OpW.force 70 rfl (by exact hp) (O.eql rfl rfl rfl (by exact beq_eq_false_iff_ne.2 (by omega)))) ?_
  refine AO.opG rfl rfl rfl (fun hp => OpW.force 71 rfl (by exact hp) (O.move rfl rfl)) ?_
  refine AO.opG rfl rfl rfl (fun hp => O.fieldAddr rfl rfl) ?_
  refine AO.opG rfl rfl rfl (fun hp => OpW.force 73 rfl (by exact hp) (O.load rfl rfl (by repeat (exact List.Mem.head _)) (by rfl))) ?_
  refine AO.opG rfl rfl rfl (fun hp => OpW.force 74 rfl (by exact hp) (O.gtr rfl rfl rfl (by exact bFalse (by omega)))) ?_
  refine AO.opG rfl rfl rfl (fun hp => OpW.force 72 rfl (by exact hp) (O.pickAnd rfl rfl rfl rfl (fun h => by simp_all))) ?_
  refine AO.opG rfl rfl rfl (fun hp => OpW.force 68 rfl (by exact hp) (O.pickOr rfl rfl rfl rfl (fun h => by simp_all))) ?_
  refine AO.opG rfl rfl rfl (fun hp => OpW.force 63 rfl (by exact hp) (O.pickAnd rfl rfl rfl rfl (fun h => by simp_all))) ?_
  refine AO.op (O.pickOr rfl rfl rfl rfl (fun h => by exact congrArg (fun b => !b) h)) rfl rfl rfl ?_
  refine AO.nil ?_
  refine AQ.thenN ?_
  refine AW.split rfl (fun h79 => ?_) (fun h79 => ?_) <;> (try simp only [decide_eq_true_eq, decide_eq_false_iff_not, beq_iff_eq, beq_eq_false_iff_ne, bne_iff_ne, bne_eq_false_iff_eq, Bool.not_eq_true', Bool.not_eq_false', Bool.not_eq_true, Bool.not_eq_false, ne_eq, Int.not_lt, Int.not_le, Bool.and_eq_true, Bool.or_eq_true, Bool.or_eq_false_iff, Bool.and_eq_false_imp, strOf_toList, Decidable.not_not] at h79)
  ·skip
   exact absurd h79 (by simp)
  ·skip
   refine AW.skip ?_
   refine AQ.thenN ?_
   refine AW.seq ?_
   refine AW.region ?_
   refine AO.op (O.move rfl rfl) rfl rfl rfl ?_
   refine AO.op (O.move rfl rfl) rfl rfl rfl ?_
   refine AO.op (O.move rfl rfl) rfl rfl rfl ?_
   refine AO.op (O.fieldAddr rfl rfl) rfl rfl rfl ?_
   refine AO.op (O.load rfl rfl (by repeat (exact List.Mem.head _)) (by rfl)) rfl rfl rfl ?_
   refine AO.op (O.eql rfl rfl rfl (by exact beq_iff_eq.2 (by omega))) rfl rfl rfl ?_
   refine AO.op (O.move rfl rfl) rfl rfl rfl ?_
   refine AO.opRow (O.call rfl Tryz.func63 rfl rfl rfl (hkp _)) rfl rfl rfl ?_
   intro V2 hV2
   refine AO.op (O.assign rfl rfl) rfl rfl rfl ?_
   refine AO.nil ?_
   refine AQ.thenN ?_
   refine AW.seq ?_
   refine AW.region ?_
   refine AO.op (O.move rfl rfl) rfl rfl rfl ?_
   refine AO.op (O.move rfl rfl) rfl rfl rfl ?_
   refine AO.op (O.move rfl rfl) rfl rfl rfl ?_
   (refine AO.op (O.callL rfl Tryz.func64 rfl rfl rfl (by repeat (exact List.Mem.head _)) (hfi) (by (repeat (first | exact LendL.nil | refine LendL.same ?_ | refine LendL.lend ?_)); done)) rfl rfl rfl ?_)
   refine AO.op (O.assign rfl rfl) rfl rfl rfl ?_
   refine AO.nil ?_
   refine AQ.thenN ?_
   refine AW.seq ?_
   refine AW.region ?_
   refine AO.op (O.assign rfl rfl) rfl rfl rfl ?_
   refine AO.nil ?_
   refine AQ.thenN ?_
   refine AW.seq ?_
   refine AW.seq ?_
   refine AW.region ?_
   refine AO.op (O.fieldAddr rfl rfl) rfl rfl rfl ?_
   refine AO.op (O.load rfl rfl (by repeat (first | exact List.Mem.head _ | refine List.Mem.tail _ ?_)) (by rfl)) rfl rfl rfl ?_
   refine AO.op (O.gtr rfl rfl rfl (by exact bFalse (by omega))) rfl rfl rfl ?_
   refine AO.nil ?_
   refine AQ.thenN ?_
   refine AW.split rfl (fun h94 => ?_) (fun h94 => ?_) <;> (try simp only [decide_eq_true_eq, decide_eq_false_iff_not, beq_iff_eq, beq_eq_false_iff_ne, bne_iff_ne, bne_eq_false_iff_eq, Bool.not_eq_true', Bool.not_eq_false', Bool.not_eq_true, Bool.not_eq_false, ne_eq, Int.not_lt, Int.not_le, Bool.and_eq_true, Bool.or_eq_true, Bool.or_eq_false_iff, Bool.and_eq_false_imp, strOf_toList, Decidable.not_not] at h94)
   ·skip
    exact absurd h94 (by simp)
   ·skip
    refine AW.skip ?_
    refine AQ.thenN ?_
    refine AW.seq ?_
    refine AW.seq ?_
    refine AW.region ?_
    refine AO.op (O.move rfl rfl) rfl rfl rfl ?_
    refine AO.op (O.lenV rfl rfl) rfl rfl rfl ?_
    refine AO.op (O.move rfl rfl) rfl rfl rfl ?_
    refine AO.op (O.lenR rfl rfl) rfl rfl rfl ?_
    refine AO.op (O.add rfl rfl rfl (by exact wI64 (by omega))) rfl rfl rfl ?_
    refine AO.op (O.gtr rfl rfl rfl (by exact bFalse (by omega))) rfl rfl rfl ?_
    refine AO.nil ?_
    refine AQ.thenN ?_
    refine AW.split rfl (fun h120 => ?_) (fun h120 => ?_) <;> (try simp only [decide_eq_true_eq, decide_eq_false_iff_not, beq_iff_eq, beq_eq_false_iff_ne, bne_iff_ne, bne_eq_false_iff_eq, Bool.not_eq_true', Bool.not_eq_false', Bool.not_eq_true, Bool.not_eq_false, ne_eq, Int.not_lt, Int.not_le, Bool.and_eq_true, Bool.or_eq_true, Bool.or_eq_false_iff, Bool.and_eq_false_imp, strOf_toList, Decidable.not_not] at h120)
    ·skip
     exact absurd h120 (by simp)
    ·skip
     refine AW.skip ?_
     refine AQ.thenN ?_
     refine AW.seq ?_
     refine AW.region ?_
     refine AO.op (O.move rfl rfl) rfl rfl rfl ?_
     (refine AO.opRow (O.callC rfl Tryz.func49 rfl rfl rfl (cloneB_fn [] (by simp)) (by (repeat (first | exact CoeL.nil | refine CoeL.cons Coe.nil ?_)); done)) rfl rfl rfl ?_)
     intro V3 hV3
     refine AO.op (O.move rfl rfl) rfl rfl rfl ?_
     (refine AO.append' (i := 0) rfl rfl rfl rfl (by rfl) (by rfl) rfl rfl rfl (by exact SrcA.ro TyD.ax (by (simp; done)) (Nat.le_of_ble_eq_true rfl)) (by (simp [AV.cells, AV.one, *]; done)) (by (unfold maxLen; simp only [List.length_take, List.length_drop, List.length_append, List.length_cons, List.length_nil, List.length_set, Nat.zero_add]; omega)) (by (simp only [List.length_take, List.length_drop, List.length_append, List.length_cons, List.length_nil, List.length_set, Nat.zero_add]; omega)) (by (dsimp only [List.set, List.cons_append, List.nil_append, List.take, List.drop]; done)) (fun _ => by (dsimp only [List.set]; done)) ?_)
     intro V4 hV4
     refine AO.op (O.assign rfl rfl) rfl rfl rfl ?_
     refine AO.nil ?_
     refine AQ.thenN ?_
     refine AW.seq ?_
     refine AW.block ?_
     refine AW.seq ?_
     refine AW.region ?_
     refine AO.op (O.fieldAddr rfl rfl) rfl rfl rfl ?_
     refine AO.op (O.load rfl rfl (by repeat (first | exact List.Mem.head _ | refine List.Mem.tail _ ?_)) (by rfl)) rfl rfl rfl ?_
     refine AO.op (O.not rfl rfl (by rfl)) rfl rfl rfl ?_
     refine AO.op (O.move rfl rfl) rfl rfl rfl ?_
     refine AO.opG rfl rfl rfl (fun hp => O.move rfl rfl) ?_
     refine AO.opG rfl rfl rfl (fun hp => OpW.force 130 rfl (by exact hp) (O.geq rfl rfl rfl (by exact bFalse (by omega)))) ?_
     refine AO.op (O.pickAnd rfl rfl rfl rfl (fun h => by exact h)) rfl rfl rfl ?_
     refine AO.op (O.assign rfl rfl) rfl rfl rfl ?_
     refine AO.nil ?_
     refine AQ.thenN ?_
     refine AW.split rfl (fun h125 => ?_) (fun h125 => ?_) <;> (try simp only [decide_eq_true_eq, decide_eq_false_iff_not, beq_iff_eq, beq_eq_false_iff_ne, bne_iff_ne, bne_eq_false_iff_eq, Bool.not_eq_true', Bool.not_eq_false', Bool.not_eq_true, Bool.not_eq_false, ne_eq, Int.not_lt, Int.not_le, Bool.and_eq_true, Bool.or_eq_true, Bool.or_eq_false_iff, Bool.and_eq_false_imp, strOf_toList, Decidable.not_not] at h125)
     ·skip
      exact absurd h125 (by simp)
     ·skip
      refine AW.seq ?_
      refine AW.region ?_
      refine AO.op (O.fieldAddr rfl rfl) rfl rfl rfl ?_
      refine AO.op (O.load rfl rfl (by repeat (first | exact List.Mem.head _ | refine List.Mem.tail _ ?_)) (by rfl)) rfl rfl rfl ?_
      refine AO.op (O.not rfl rfl (by rfl)) rfl rfl rfl ?_
      refine AO.op (O.assign rfl rfl) rfl rfl rfl ?_
      refine AO.nil ?_
      refine AQ.thenN ?_
      refine AW.split rfl (fun h142 => ?_) (fun h142 => ?_) <;> (try simp only [decide_eq_true_eq, decide_eq_false_iff_not, beq_iff_eq, beq_eq_false_iff_ne, bne_iff_ne, bne_eq_false_iff_eq, Bool.not_eq_true', Bool.not_eq_false', Bool.not_eq_true, Bool.not_eq_false, ne_eq, Int.not_lt, Int.not_le, Bool.and_eq_true, Bool.or_eq_true, Bool.or_eq_false_iff, Bool.and_eq_false_imp, strOf_toList, Decidable.not_not] at h142)
      ·skip
       exact absurd (hmo.symm.trans h142) (by simp)
      ·skip
       refine AW.seq ?_
       refine AW.region ?_
       refine AO.op (O.move rfl rfl) rfl rfl rfl ?_
       refine AO.op (O.geq rfl rfl rfl (by exact bFalse (by omega))) rfl rfl rfl ?_
       refine AO.op (O.assign rfl rfl) rfl rfl rfl ?_
       refine AO.nil ?_
       refine AQ.thenN ?_
       refine AW.split rfl (fun h148 => ?_) (fun h148 => ?_) <;> (try simp only [decide_eq_true_eq, decide_eq_false_iff_not, beq_iff_eq, beq_eq_false_iff_ne, bne_iff_ne, bne_eq_false_iff_eq, Bool.not_eq_true', Bool.not_eq_false', Bool.not_eq_true, Bool.not_eq_false, ne_eq, Int.not_lt, Int.not_le, Bool.and_eq_true, Bool.or_eq_true, Bool.or_eq_false_iff, Bool.and_eq_false_imp, strOf_toList, Decidable.not_not] at h148)
       ·skip
        exact absurd h148 (by simp)
       ·skip
        refine AW.seq ?_
        refine AW.region ?_
        refine AO.op (O.move rfl rfl) rfl rfl rfl ?_
        refine AO.op (O.lenRow rfl rfl (by repeat (first | exact List.Mem.head _ | refine List.Mem.tail _ ?_))) rfl rfl rfl ?_
        refine AO.op (O.geq rfl rfl rfl (by exact bFalse (by omega))) rfl rfl rfl ?_
        refine AO.op (O.assign rfl rfl) rfl rfl rfl ?_
        refine AO.nil ?_
        refine AQ.thenN ?_
        refine AW.split rfl (fun h163 => ?_) (fun h163 => ?_) <;> (try simp only [decide_eq_true_eq, decide_eq_false_iff_not, beq_iff_eq, beq_eq_false_iff_ne, bne_iff_ne, bne_eq_false_iff_eq, Bool.not_eq_true', Bool.not_eq_false', Bool.not_eq_true, Bool.not_eq_false, ne_eq, Int.not_lt, Int.not_le, Bool.and_eq_true, Bool.or_eq_true, Bool.or_eq_false_iff, Bool.and_eq_false_imp, strOf_toList, Decidable.not_not] at h163)
        ·skip
         exact absurd h163 (by simp)
        ·skip
         rw [show bytesA [] ++ bytesA pay = bytesA pay from rfl, show ([] : List UInt8).length + pay.length = pay.length from Nat.zero_add _]
         refine AW.g ?_
         (refine G.freezeRow 0 rfl [18] (by (repeat (first | exact frNil | refine frCons rfl ?_)); done) ?_)
         refine AW.u ?_
         try dsimp only [List.map, List.eraseIdx, List.cons_append, List.nil_append]
         refine AW.skip ?_
         refine AQ.blockN ?_
         refine AQ.thenN ?_
         refine AW.seq ?_
         refine AW.region ?_
         refine AO.op (O.move rfl rfl) rfl rfl rfl ?_
         refine AO.op (O.move rfl rfl) rfl rfl rfl ?_
         refine AO.op (O.move rfl rfl) rfl rfl rfl ?_
         refine AO.opRow (O.call rfl Tryz.func49 rfl rfl rfl (cloneB_fn [] (by simp))) rfl rfl rfl ?_
         intro V5 hV5
         refine AO.g ?_
         refine G.freezeRow 0 rfl [170] (by repeat (first | exact frNil | refine frCons rfl ?_)) ?_
         refine AO.u ?_
         dsimp only [List.map, List.eraseIdx, List.cons_append, List.nil_append]
         refine AO.op (O.move rfl rfl) rfl rfl rfl ?_
         refine AO.op (O.move rfl rfl) rfl rfl rfl ?_
         refine AO.op (O.add rfl rfl rfl (by exact wI64 (by omega))) rfl rfl rfl ?_
         refine AO.op (O.build rfl rfl rfl (by rfl)) rfl rfl rfl ?_
         refine AO.opB (O.buildSlice rfl rfl rfl (by rfl) (by rfl) (by rfl) (by rfl)) rfl rfl rfl ?_
         intro B6
         refine AO.g ?_
         (refine G.freezeSl 0 175 rfl rfl ⟨Nat.le_refl _, by unfold maxLen; omega⟩ ?_)
         refine G.unfull 175 rfl ?_
         refine AO.u ?_
         dsimp only [List.eraseIdx]
         (refine AO.append' (i := 0) rfl rfl rfl rfl (by rfl) (by rfl) rfl rfl rfl (by exact SrcA.ro TyD.ax (by rfl) (Nat.le_of_ble_eq_true rfl)) (by rfl) (by (unfold maxLen; omega)) (by omega) (by (dsimp only [List.set, List.cons_append, List.nil_append, List.take, List.drop]; done)) (fun _ => by (dsimp only [List.set]; done)) ?_)
         intro V7 hV7
         refine AO.op (O.assign rfl rfl) rfl rfl rfl ?_
         refine AO.op (O.assign rfl rfl) rfl rfl rfl ?_
         refine AO.op (O.assign rfl rfl) rfl rfl rfl ?_
         refine AO.op (O.assign rfl rfl) rfl rfl rfl ?_
         refine AO.nil ?_
         refine AQ.thenN ?_
         refine AW.ret ?_
         refine AQ.g ?_
         (refine G.freezeRow 0 rfl [12] (by (repeat (first | exact frNil | refine frCons rfl ?_)); done) ?_)
         refine AQ.u ?_
         try dsimp only [List.map, List.eraseIdx, List.cons_append, List.nil_append]
         refine FnQ.coe (AQ.ret4G rfl (by exact ResAt.tmp rfl) (by exact ResAt.tmp rfl) (by exact ResAt.tmp rfl) (by exact ResAt.tmp rfl) ⟨_, List.nil_sublist _, .nil⟩ ⟨rfl, rfl⟩) (Coe.tup (by (repeat (first | exact CoeL.nil | refine CoeL.cons Coe.rfl ?_ | refine CoeL.cons Coe.nil ?_)); done)) (⟨rfl, rfl⟩)
abbrev ptU (data : List UInt8) (till : Int) : Pt := ⟨0, [], data, till⟩
abbrev cptU (data : List UInt8) (till : Int) : List AV := [.val (.int .i64 0), roB [], roB data, .val (.int .i64 till)]
theorem ptU_val {data : List UInt8} {till : Int} (hd : data.length ≤ 4096) (ht : 0 ≤ till) : ValP [ptU data till] := valP_one ⟨by show (0 : Int) ≤ 0; omega, by show (0 : Int) ≤ 65536; omega, by simp, by show (data.length : Int) ≤ 4096; omega, ht⟩
theorem kept_dead {data : List UInt8} {till now : Int} (an : Bool) (h : till ≤ now) : keptL [ptU data till] 0 [] an now = [] := by
 unfold keptL keepB; simp [h]
theorem kept_live {data : List UInt8} {till now : Int} (h : now < till) : keptL [ptU data till] 0 [] false now = [ptU data till] := by
 unfold keptL keepB; simp [h]
theorem bput3_fn (sz num till now : Int) (data pay : List UInt8) (mo : Bool) (hs : 0 ≤ sz ∧ sz ≤ 2) (hnow : 0 ≤ now ∧ now ≤ 1000000) (hnum : 0 < num ∧ num ≤ 1000) (hd : data.length ≤ 300) (ht : 0 ≤ till) (hp : (mo = true → pay.length = szN sz) ∧ (mo = false → pay.length ≤ szN sz)) (hp0 : 0 < pay.length) (hold : till ≤ now) :
  Sp Tryz.prog 28 [roPt [ptU data till], .val (.int .i64 0), roB [], blkA num mo sz, roB pay, .val (.int .i64 now)] [] (Is (.tup [roPt [], roB [], .val (.bool false), .val (.int .i64 15)])) := by
 have hva : Sp Tryz.prog 62 [roPt [ptU data till]] [] (Is (.val (.bool true))) := bvalid_fn _ (ptU_val (by omega) ht)
 have hkp : ∀ an, Sp Tryz.prog 63 [roPt [ptU data till], .val (.int .i64 0), roB [], .val (.bool an), .val (.int .i64 now)] [] (NewRow 133 4 0 []) := fun an => by
  have h := bkept_fn [ptU data till] 0 [] an now (by simp) (fun i h => by
   obtain rfl : i = 0 := by simpa using h
   exact ⟨by simp, by show data.length ≤ 4096; omega⟩)
  rw [kept_dead an hold] at h
  exact h
 have hfi : Sp Tryz.prog 64 [.ro false 0 [], .val (.int .i64 0), roB []] [] (Is (.val (.int .i64 (-1)))) := bfind_fn [] 0 [] (by simp)
 have hsz := szN_in hs
 have hbl := blen_fn sz hs
 generalize szN sz = n at *
 refine Sp.enter Tryz.func28 rfl _ Tryz.ntmps28 rfl (fun w0 R0 => ?_)
 refine AW.seq ?_
 refine AW.region ?_
 refine AO.opB (O.box rfl rfl rfl rfl rfl) rfl rfl rfl ?_
 intro B1
 refine AO.op (O.assign rfl rfl) rfl rfl rfl ?_
 refine AO.op (O.assign rfl rfl) rfl rfl rfl ?_
 refine AO.op (O.assign rfl rfl) rfl rfl rfl ?_
 refine AO.op (O.assign rfl rfl) rfl rfl rfl ?_
 refine AO.nil ?_
 refine AQ.thenN ?_
 refine AW.seq ?_
 refine AW.seq ?_
 refine AW.region ?_
 refine AO.op (O.move rfl rfl) rfl rfl rfl ?_
 refine AO.op (O.call rfl Tryz.func62 rfl rfl rfl (hva)) rfl rfl rfl ?_
 refine AO.op (O.not rfl rfl (by rfl)) rfl rfl rfl ?_
 refine AO.op (O.move rfl rfl) rfl rfl rfl ?_
 refine AO.op (O.move rfl rfl) rfl rfl rfl ?_
 refine AO.op (O.lss rfl rfl rfl (by exact bFalse (by omega))) rfl rfl rfl ?_
 refine AO.op (O.pickF rfl rfl rfl) rfl rfl rfl ?_
 refine AO.op (O.move rfl rfl) rfl rfl rfl ?_
 refine AO.op (O.move rfl rfl) rfl rfl rfl ?_
 refine AO.op (O.gtr rfl rfl rfl (by exact bFalse (by omega))) rfl rfl rfl ?_
 refine AO.op (O.pickF rfl rfl rfl) rfl rfl rfl ?_
 refine AO.op (O.move rfl rfl) rfl rfl rfl ?_
 refine AO.op (O.move rfl rfl) rfl rfl rfl ?_
 refine AO.op (O.lenR rfl rfl) rfl rfl rfl ?_
 refine AO.op (O.gtr rfl rfl rfl (by rfl)) rfl rfl rfl ?_
 refine AO.op (O.pickF rfl rfl rfl) rfl rfl rfl ?_
 refine AO.op (O.move rfl rfl) rfl rfl rfl ?_
 (refine AO.op (O.loadK rfl rfl (by repeat (exact List.Mem.head _)) (by (dsimp only [List.set, List.cons_append, List.nil_append, List.take, List.drop]; done)) (by rfl)) rfl rfl rfl ?_)
 refine AO.op (O.call rfl Tryz.func60 rfl rfl rfl (bsound_fn _ _ _ ⟨by omega, by omega⟩ ⟨by omega, by omega⟩)) rfl rfl rfl ?_
 refine AO.op (O.not rfl rfl (by rfl)) rfl rfl rfl ?_
 refine AO.op (O.pickF rfl rfl rfl) rfl rfl rfl ?_
 refine AO.op (O.move rfl rfl) rfl rfl rfl ?_
 refine AO.op (O.move rfl rfl) rfl rfl rfl ?_
 refine AO.op (O.lss rfl rfl rfl (by exact bFalse (by omega))) rfl rfl rfl ?_
 refine AO.op (O.pickF rfl rfl rfl) rfl rfl rfl ?_
 refine AO.op (O.move rfl rfl) rfl rfl rfl ?_
 refine AO.op (O.move rfl rfl) rfl rfl rfl ?_
 refine AO.op (O.gtr rfl rfl rfl (by exact bFalse (by omega))) rfl rfl rfl ?_
 refine AO.op (O.pickF rfl rfl rfl) rfl rfl rfl ?_
 refine AO.nil ?_
 refine AQ.thenN ?_
 refine AW.split rfl (fun h47 => ?_) (fun h47 => ?_) <;> (try simp only [decide_eq_true_eq, decide_eq_false_iff_not, beq_iff_eq, beq_eq_false_iff_ne, bne_iff_ne, bne_eq_false_iff_eq, Bool.not_eq_true', Bool.not_eq_false', Bool.not_eq_true, Bool.not_eq_false, ne_eq, Int.not_lt, Int.not_le, Bool.and_eq_true, Bool.or_eq_true, Bool.or_eq_false_iff, Bool.and_eq_false_imp, strOf_toList, Decidable.not_not] at h47)
 ·skip
  exact absurd h47 (by simp)
 ·skip
  refine AW.skip ?_
  refine AQ.thenN ?_
  refine AW.seq ?_
  refine AW.region ?_
  refine AO.op (O.fieldAddr rfl rfl) rfl rfl rfl ?_
  refine AO.op (O.load rfl rfl (by repeat (exact List.Mem.head _)) (by rfl)) rfl rfl rfl ?_
  refine AO.op (O.call rfl Tryz.func61 rfl rfl rfl (hbl)) rfl rfl rfl ?_
  refine AO.op (O.assign rfl rfl) rfl rfl rfl ?_
  refine AO.nil ?_
  refine AQ.thenN ?_
  refine AW.seq ?_
  refine AW.seq ?_
  refine AW.region ?_
  refine AO.op (O.fieldAddr rfl rfl) rfl rfl rfl ?_
  refine AO.op (O.load rfl rfl (by repeat (exact List.Mem.head _)) (by rfl)) rfl rfl rfl ?_
  refine AO.op (O.move rfl rfl) rfl rfl rfl ?_
  refine AO.opG rfl rfl rfl (fun hp => O.move rfl rfl) ?_
  refine AO.opG rfl rfl rfl (fun hp => OpW.force 54 rfl (by exact hp) (O.lenR rfl rfl)) ?_
  refine AO.opG rfl rfl rfl (fun hp => O.move rfl rfl) ?_
  refine AO.opG rfl rfl rfl (fun hp => OpW.force 55 rfl (by exact hp) (OpW.force 56 rfl (by exact hp) (O.neq rfl rfl rfl (by rfl)))) ?_
  refine AO.op (O.pickAnd rfl rfl rfl rfl (fun h => by exact h)) rfl rfl rfl ?_
  refine AO.op (O.move rfl rfl) rfl rfl rfl ?_
  refine AO.opG rfl rfl rfl (fun hp => O.fieldAddr rfl rfl) ?_
  refine AO.opG rfl rfl rfl (fun hp => OpW.force 60 rfl (by exact hp) (O.load rfl rfl (by repeat (exact List.Mem.head _)) (by rfl))) ?_
  refine AO.opG rfl rfl rfl (fun hp => OpW.force 61 rfl (by exact hp) (O.not rfl rfl (by rfl))) ?_
  refine AO.opG rfl rfl rfl (fun hp => OpW.force 62 rfl (by exact hp) (O.move rfl rfl)) ?_
  refine AO.opG rfl rfl rfl (fun hp => O.move rfl rfl) ?_
  refine AO.opG rfl rfl rfl (fun hp => OpW.force 64 rfl (by exact hp) (O.lenR rfl rfl)) ?_
  refine AO.opG rfl rfl rfl (fun hp => O.move rfl rfl) ?_
  refine AO.opG rfl rfl rfl (fun hp => OpW.force 65 rfl (by exact hp) (OpW.force 66 rfl (by exact hp) (O.gtr rfl rfl rfl (by rfl)))) ?_
  refine AO.opG rfl rfl rfl (fun hp => OpW.force 67 rfl (by exact hp) (O.move rfl rfl)) ?_
  refine AO.opG rfl rfl rfl (fun hp => O.move rfl rfl) ?_
  refine AO.opG rfl rfl rfl (fun hp => OpW.force 69 rfl (by exact hp) (O.lenR rfl rfl)) ?_
  refine AO.opG rfl rfl rfl (fun hp => OpW.force 70 rfl (by exact hp) (O.eql rfl rfl rfl (by exact beq_eq_false_iff_ne.2 (by omega)))) ?_
  refine AO.opG rfl rfl rfl (fun hp => OpW.force 71 rfl (by exact hp) (O.move rfl rfl)) ?_
  refine AO.opG rfl rfl rfl (fun hp => O.fieldAddr rfl rfl) ?_
  refine AO.opG rfl rfl rfl (fun hp => OpW.force 73 rfl (by exact hp) (O.load rfl rfl (by repeat (exact List.Mem.head _)) (by rfl))) ?_
  refine AO.opG rfl rfl rfl (fun hp => OpW.force 74 rfl (by exact hp) (O.gtr rfl rfl rfl (by exact bTrue (by omega)))) ?_
  refine AO.opG rfl rfl rfl (fun hp => OpW.force 72 rfl (by exact hp) (O.pickAnd rfl rfl rfl rfl (fun h => by simp_all))) ?_
  refine AO.opG rfl rfl rfl (fun hp => OpW.force 68 rfl (by exact hp) (O.pickOr rfl rfl rfl rfl (fun h => by simp_all))) ?_
  refine AO.opG rfl rfl rfl (fun hp => OpW.force 63 rfl (by exact hp) (O.pickAnd rfl rfl rfl rfl (fun h => by simp_all))) ?_
  refine AO.op (O.pickOr rfl rfl rfl rfl (fun h => by exact congrArg (fun b => !b) h)) rfl rfl rfl ?_
  refine AO.nil ?_
  refine AQ.thenN ?_
  refine AW.split rfl (fun h79 => ?_) (fun h79 => ?_) <;> (try simp only [decide_eq_true_eq, decide_eq_false_iff_not, beq_iff_eq, beq_eq_false_iff_ne, bne_iff_ne, bne_eq_false_iff_eq, Bool.not_eq_true', Bool.not_eq_false', Bool.not_eq_true, Bool.not_eq_false, ne_eq, Int.not_lt, Int.not_le, Bool.and_eq_true, Bool.or_eq_true, Bool.or_eq_false_iff, Bool.and_eq_false_imp, strOf_toList, Decidable.not_not] at h79)
  ·skip
   exfalso
   rcases h79 with ⟨h1, h2⟩ | ⟨h1, h2⟩
   ·have := hp.1 h1
    omega
   ·have := hp.2 h1
    (simp at h2; omega)
  ·skip
   refine AW.skip ?_
   refine AQ.thenN ?_
   refine AW.seq ?_
   refine AW.region ?_
   refine AO.op (O.move rfl rfl) rfl rfl rfl ?_
   refine AO.op (O.move rfl rfl) rfl rfl rfl ?_
   refine AO.op (O.move rfl rfl) rfl rfl rfl ?_
   refine AO.op (O.fieldAddr rfl rfl) rfl rfl rfl ?_
   refine AO.op (O.load rfl rfl (by repeat (exact List.Mem.head _)) (by rfl)) rfl rfl rfl ?_
   refine AO.op (O.eql rfl rfl rfl (by exact beq_eq_false_iff_ne.2 (by omega))) rfl rfl rfl ?_
   refine AO.op (O.move rfl rfl) rfl rfl rfl ?_
   refine AO.opRow (O.call rfl Tryz.func63 rfl rfl rfl (hkp _)) rfl rfl rfl ?_
   intro V2 hV2
   refine AO.op (O.assign rfl rfl) rfl rfl rfl ?_
   refine AO.nil ?_
   refine AQ.thenN ?_
   refine AW.seq ?_
   refine AW.region ?_
   refine AO.op (O.move rfl rfl) rfl rfl rfl ?_
   refine AO.op (O.move rfl rfl) rfl rfl rfl ?_
   refine AO.op (O.move rfl rfl) rfl rfl rfl ?_
   (refine AO.op (O.callL rfl Tryz.func64 rfl rfl rfl (by repeat (exact List.Mem.head _)) (hfi) (by (repeat (first | exact LendL.nil | refine LendL.same ?_ | refine LendL.lend ?_)); done)) rfl rfl rfl ?_)
   refine AO.op (O.assign rfl rfl) rfl rfl rfl ?_
   refine AO.nil ?_
   refine AQ.thenN ?_
   refine AW.seq ?_
   refine AW.region ?_
   refine AO.op (O.assign rfl rfl) rfl rfl rfl ?_
   refine AO.nil ?_
   refine AQ.thenN ?_
   refine AW.seq ?_
   refine AW.seq ?_
   refine AW.region ?_
   refine AO.op (O.fieldAddr rfl rfl) rfl rfl rfl ?_
   refine AO.op (O.load rfl rfl (by repeat (first | exact List.Mem.head _ | refine List.Mem.tail _ ?_)) (by rfl)) rfl rfl rfl ?_
   refine AO.op (O.gtr rfl rfl rfl (by exact bTrue (by omega))) rfl rfl rfl ?_
   refine AO.nil ?_
   refine AQ.thenN ?_
   refine AW.split rfl (fun h94 => ?_) (fun h94 => ?_) <;> (try simp only [decide_eq_true_eq, decide_eq_false_iff_not, beq_iff_eq, beq_eq_false_iff_ne, bne_iff_ne, bne_eq_false_iff_eq, Bool.not_eq_true', Bool.not_eq_false', Bool.not_eq_true, Bool.not_eq_false, ne_eq, Int.not_lt, Int.not_le, Bool.and_eq_true, Bool.or_eq_true, Bool.or_eq_false_iff, Bool.and_eq_false_imp, strOf_toList, Decidable.not_not] at h94)
   ·skip
    refine AW.seq ?_
    refine AW.seq ?_
    refine AW.regionD 15 (by kernel_rfl) (by kernel_rfl) ?_
    simp only [List.take_succ_cons, List.take_zero, List.drop_succ_cons, List.drop_zero]
    refine FA.op (O.move rfl rfl) rfl rfl rfl rfl ?_
    refine FA.op (O.lss rfl rfl rfl (by exact bTrue (by omega))) rfl rfl rfl rfl ?_
    refine FA.op (O.move rfl rfl) rfl rfl rfl rfl ?_
    refine FA.no rfl rfl rfl rfl ?_
    refine FA.no rfl rfl rfl rfl ?_
    refine FA.no rfl rfl rfl rfl ?_
    refine FA.no rfl rfl rfl rfl ?_
    refine FA.no rfl rfl rfl rfl ?_
    refine FA.no rfl rfl rfl rfl ?_
    refine FA.no rfl rfl rfl rfl ?_
    refine FA.no rfl rfl rfl rfl ?_
    refine FA.no rfl rfl rfl rfl ?_
    refine FA.no rfl rfl rfl rfl ?_
    refine FA.no rfl rfl rfl rfl ?_
    refine FA.op (O.pickT rfl rfl rfl) rfl rfl rfl rfl ?_
    refine FA.nil ?_
    simp only [chosen, List.nil_append, List.cons_append, List.append_nil]
    refine AO.nil ?_
    refine AQ.thenN ?_
    refine AW.split rfl (fun h109 => ?_) (fun h109 => ?_) <;> (try simp only [decide_eq_true_eq, decide_eq_false_iff_not, beq_iff_eq, beq_eq_false_iff_ne, bne_iff_ne, bne_eq_false_iff_eq, Bool.not_eq_true', Bool.not_eq_false', Bool.not_eq_true, Bool.not_eq_false, ne_eq, Int.not_lt, Int.not_le, Bool.and_eq_true, Bool.or_eq_true, Bool.or_eq_false_iff, Bool.and_eq_false_imp, strOf_toList, Decidable.not_not] at h109)
    ·skip
     refine AW.seq ?_
     refine AW.region ?_
     refine AO.op (O.assign rfl rfl) rfl rfl rfl ?_
     refine AO.op (O.assign rfl rfl) rfl rfl rfl ?_
     refine AO.op (O.assign rfl rfl) rfl rfl rfl ?_
     refine AO.op (O.assign rfl rfl) rfl rfl rfl ?_
     refine AO.nil ?_
     refine AQ.thenN ?_
     refine AW.ret ?_
     refine AQ.thenR ?_
     refine AQ.thenR ?_
     refine FnQ.coe (AQ.ret4G rfl (by exact ResAt.tmp rfl) (by exact ResAt.tmp rfl) (by exact ResAt.tmp rfl) (by exact ResAt.tmp rfl) ⟨_, List.nil_sublist _, .nil⟩ ⟨rfl, rfl⟩) (Coe.tup (by (repeat (first | exact CoeL.nil | refine CoeL.cons Coe.rfl ?_ | refine CoeL.cons Coe.nil ?_)); done)) (⟨rfl, rfl⟩)
    ·skip
     exact absurd h109 (by simp)
   ·skip
    exact absurd h94 (by simp)
theorem hkp_live {data : List UInt8} {till now : Int} (hd : data.length ≤ 300) (hl : now < till) : ∀ an : Bool, an = false → Sp Tryz.prog 63 [roPt [ptU data till], .val (.int .i64 0), roB [], .val (.bool an), .val (.int .i64 now)] [] (NewRow 133 4 1 (cptU data till)) := fun an han => by
 subst han
 have h := bkept_fn [ptU data till] 0 [] false now (by simp) (fun i h => by
  obtain rfl : i = 0 := by simpa using h
  exact ⟨by simp, by show data.length ≤ 4096; omega⟩)
 rw [kept_live hl] at h
 exact h
theorem bput4_fn (sz num till now : Int) (data pay : List UInt8) (mo : Bool) (hmo : mo = true) (hs : 0 ≤ sz ∧ sz ≤ 2) (hnow : 0 ≤ now ∧ now ≤ 1000000) (hnum : 0 < num ∧ num ≤ 1000) (hd : data.length ≤ 300) (hdn : num * ((szN sz : Nat) : Int) = (data.length : Int)) (ht : 0 ≤ till) (hp : pay.length = szN sz) (hlive : now < till) :
  Sp Tryz.prog 28 [roPt [ptU data till], .val (.int .i64 0), roB [], blkA num mo sz, roB pay, .val (.int .i64 now)] [] (Is (.tup [roPt [ptU (data ++ pay) (now + 128)], roB [], .val (.bool false), .val (.int .i64 0)])) := by
 have hva : Sp Tryz.prog 62 [roPt [ptU data till]] [] (Is (.val (.bool true))) := bvalid_fn _ (ptU_val (by omega) ht)
 have hkp := hkp_live (data := data) (till := till) (now := now) hd hlive
 have hfi : Sp Tryz.prog 64 [.ro false 1 (cptU data till), .val (.int .i64 0), roB []] [] (Is (.val (.int .i64 0))) := bfind_fn [ptU data till] 0 [] (by simp)
 have hsz := szN_in hs
 have hbl := blen_fn sz hs
 generalize szN sz = n at *
 refine Sp.enter Tryz.func28 rfl _ Tryz.ntmps28 rfl (fun w0 R0 => ?_)
 refine AW.seq ?_
 refine AW.region ?_
 refine AO.opB (O.box rfl rfl rfl rfl rfl) rfl rfl rfl ?_
 intro B1
 refine AO.op (O.assign rfl rfl) rfl rfl rfl ?_
 refine AO.op (O.assign rfl rfl) rfl rfl rfl ?_
 refine AO.op (O.assign rfl rfl) rfl rfl rfl ?_
 refine AO.op (O.assign rfl rfl) rfl rfl rfl ?_
 refine AO.nil ?_
 refine AQ.thenN ?_
 refine AW.seq ?_
 refine AW.seq ?_
 refine AW.region ?_
 refine AO.op (O.move rfl rfl) rfl rfl rfl ?_
 refine AO.op (O.call rfl Tryz.func62 rfl rfl rfl (hva)) rfl rfl rfl ?_
 refine AO.op (O.not rfl rfl (by rfl)) rfl rfl rfl ?_
 refine AO.op (O.move rfl rfl) rfl rfl rfl ?_
 refine AO.op (O.move rfl rfl) rfl rfl rfl ?_
 refine AO.op (O.lss rfl rfl rfl (by exact bFalse (by omega))) rfl rfl rfl ?_
 refine AO.op (O.pickF rfl rfl rfl) rfl rfl rfl ?_
 refine AO.op (O.move rfl rfl) rfl rfl rfl ?_
 refine AO.op (O.move rfl rfl) rfl rfl rfl ?_
 refine AO.op (O.gtr rfl rfl rfl (by exact bFalse (by omega))) rfl rfl rfl ?_
 refine AO.op (O.pickF rfl rfl rfl) rfl rfl rfl ?_
 refine AO.op (O.move rfl rfl) rfl rfl rfl ?_
 refine AO.op (O.move rfl rfl) rfl rfl rfl ?_
 refine AO.op (O.lenR rfl rfl) rfl rfl rfl ?_
 refine AO.op (O.gtr rfl rfl rfl (by rfl)) rfl rfl rfl ?_
 refine AO.op (O.pickF rfl rfl rfl) rfl rfl rfl ?_
 refine AO.op (O.move rfl rfl) rfl rfl rfl ?_
 (refine AO.op (O.loadK rfl rfl (by repeat (exact List.Mem.head _)) (by (dsimp only [List.set, List.cons_append, List.nil_append, List.take, List.drop]; done)) (by rfl)) rfl rfl rfl ?_)
 refine AO.op (O.call rfl Tryz.func60 rfl rfl rfl (bsound_fn _ _ _ ⟨by omega, by omega⟩ ⟨by omega, by omega⟩)) rfl rfl rfl ?_
 refine AO.op (O.not rfl rfl (by rfl)) rfl rfl rfl ?_
 refine AO.op (O.pickF rfl rfl rfl) rfl rfl rfl ?_
 refine AO.op (O.move rfl rfl) rfl rfl rfl ?_
 refine AO.op (O.move rfl rfl) rfl rfl rfl ?_
 refine AO.op (O.lss rfl rfl rfl (by exact bFalse (by omega))) rfl rfl rfl ?_
 refine AO.op (O.pickF rfl rfl rfl) rfl rfl rfl ?_
 refine AO.op (O.move rfl rfl) rfl rfl rfl ?_
 refine AO.op (O.move rfl rfl) rfl rfl rfl ?_
 refine AO.op (O.gtr rfl rfl rfl (by exact bFalse (by omega))) rfl rfl rfl ?_
 refine AO.op (O.pickF rfl rfl rfl) rfl rfl rfl ?_
 refine AO.nil ?_
 refine AQ.thenN ?_
 refine AW.split rfl (fun h47 => ?_) (fun h47 => ?_) <;> (try simp only [decide_eq_true_eq, decide_eq_false_iff_not, beq_iff_eq, beq_eq_false_iff_ne, bne_iff_ne, bne_eq_false_iff_eq, Bool.not_eq_true', Bool.not_eq_false', Bool.not_eq_true, Bool.not_eq_false, ne_eq, Int.not_lt, Int.not_le, Bool.and_eq_true, Bool.or_eq_true, Bool.or_eq_false_iff, Bool.and_eq_false_imp, strOf_toList, Decidable.not_not] at h47)
 ·skip
  exact absurd h47 (by simp)
 ·skip
  refine AW.skip ?_
  refine AQ.thenN ?_
  refine AW.seq ?_
  refine AW.region ?_
  refine AO.op (O.fieldAddr rfl rfl) rfl rfl rfl ?_
  refine AO.op (O.load rfl rfl (by repeat (exact List.Mem.head _)) (by rfl)) rfl rfl rfl ?_
  refine AO.op (O.call rfl Tryz.func61 rfl rfl rfl (hbl)) rfl rfl rfl ?_
  refine AO.op (O.assign rfl rfl) rfl rfl rfl ?_
  refine AO.nil ?_
  refine AQ.thenN ?_
  refine AW.seq ?_
  refine AW.seq ?_
  refine AW.region ?_
  refine AO.op (O.fieldAddr rfl rfl) rfl rfl rfl ?_
  refine AO.op (O.load rfl rfl (by repeat (exact List.Mem.head _)) (by rfl)) rfl rfl rfl ?_
  refine AO.op (O.move rfl rfl) rfl rfl rfl ?_
  refine AO.opG rfl rfl rfl (fun hp => O.move rfl rfl) ?_
  refine AO.opG rfl rfl rfl (fun hp => OpW.force 54 rfl (by exact hp) (O.lenR rfl rfl)) ?_
  refine AO.opG rfl rfl rfl (fun hp => O.move rfl rfl) ?_
  refine AO.opG rfl rfl rfl (fun hp => OpW.force 55 rfl (by exact hp) (OpW.force 56 rfl (by exact hp) (O.neq rfl rfl rfl (by exact bne_eq_false_iff_eq.2 (by omega))))) ?_
  refine AO.op (O.pickAnd rfl rfl rfl rfl (fun h => by exact h)) rfl rfl rfl ?_
  refine AO.op (O.move rfl rfl) rfl rfl rfl ?_
  refine AO.opG rfl rfl rfl (fun hp => O.fieldAddr rfl rfl) ?_
  refine AO.opG rfl rfl rfl (fun hp => OpW.force 60 rfl (by exact hp) (O.load rfl rfl (by repeat (exact List.Mem.head _)) (by rfl))) ?_
  refine AO.opG rfl rfl rfl (fun hp => OpW.force 61 rfl (by exact hp) (O.not rfl rfl (by rfl))) ?_
  refine AO.opG rfl rfl rfl (fun hp => OpW.force 62 rfl (by exact hp) (O.move rfl rfl)) ?_
  refine AO.opG rfl rfl rfl (fun hp => O.move rfl rfl) ?_
  refine AO.opG rfl rfl rfl (fun hp => OpW.force 64 rfl (by exact hp) (O.lenR rfl rfl)) ?_
  refine AO.opG rfl rfl rfl (fun hp => O.move rfl rfl) ?_
  refine AO.opG rfl rfl rfl (fun hp => OpW.force 65 rfl (by exact hp) (OpW.force 66 rfl (by exact hp) (O.gtr rfl rfl rfl (by exact bFalse (by omega))))) ?_
  refine AO.opG rfl rfl rfl (fun hp => OpW.force 67 rfl (by exact hp) (O.move rfl rfl)) ?_
  refine AO.opG rfl rfl rfl (fun hp => O.move rfl rfl) ?_
  refine AO.opG rfl rfl rfl (fun hp => OpW.force 69 rfl (by exact hp) (O.lenR rfl rfl)) ?_
  refine AO.opG rfl rfl rfl (fun hp => OpW.force 70 rfl (by exact hp) (O.eql rfl rfl rfl (by exact beq_eq_false_iff_ne.2 (by omega)))) ?_
  refine AO.opG rfl rfl rfl (fun hp => OpW.force 71 rfl (by exact hp) (O.move rfl rfl)) ?_
  refine AO.opG rfl rfl rfl (fun hp => O.fieldAddr rfl rfl) ?_
  refine AO.opG rfl rfl rfl (fun hp => OpW.force 73 rfl (by exact hp) (O.load rfl rfl (by repeat (exact List.Mem.head _)) (by rfl))) ?_
  refine AO.opG rfl rfl rfl (fun hp => OpW.force 74 rfl (by exact hp) (O.gtr rfl rfl rfl (by exact bTrue (by omega)))) ?_
  refine AO.opG rfl rfl rfl (fun hp => OpW.force 72 rfl (by exact hp) (O.pickAnd rfl rfl rfl rfl (fun h => by simp_all))) ?_
  refine AO.opG rfl rfl rfl (fun hp => OpW.force 68 rfl (by exact hp) (O.pickOr rfl rfl rfl rfl (fun h => by simp_all))) ?_
  refine AO.opG rfl rfl rfl (fun hp => OpW.force 63 rfl (by exact hp) (O.pickAnd rfl rfl rfl rfl (fun h => by simp_all))) ?_
  refine AO.op (O.pickOr rfl rfl rfl rfl (fun h => by exact congrArg (fun b => !b) h)) rfl rfl rfl ?_
  refine AO.nil ?_
  refine AQ.thenN ?_
  refine AW.split rfl (fun h79 => ?_) (fun h79 => ?_) <;> (try simp only [decide_eq_true_eq, decide_eq_false_iff_not, beq_iff_eq, beq_eq_false_iff_ne, bne_iff_ne, bne_eq_false_iff_eq, Bool.not_eq_true', Bool.not_eq_false', Bool.not_eq_true, Bool.not_eq_false, ne_eq, Int.not_lt, Int.not_le, Bool.and_eq_true, Bool.or_eq_true, Bool.or_eq_false_iff, Bool.and_eq_false_imp, strOf_toList, Decidable.not_not] at h79)
  ·skip
   exfalso
   rcases h79 with ⟨h1, h2⟩ | ⟨h1, h2⟩
   ·(simp at h2; done)
   ·rw [hmo] at h1; cases h1
  ·skip
   refine AW.skip ?_
   refine AQ.thenN ?_
   refine AW.seq ?_
   refine AW.region ?_
   refine AO.op (O.move rfl rfl) rfl rfl rfl ?_
   refine AO.op (O.move rfl rfl) rfl rfl rfl ?_
   refine AO.op (O.move rfl rfl) rfl rfl rfl ?_
   refine AO.op (O.fieldAddr rfl rfl) rfl rfl rfl ?_
   refine AO.op (O.load rfl rfl (by repeat (exact List.Mem.head _)) (by rfl)) rfl rfl rfl ?_
   refine AO.op (O.eql rfl rfl rfl (by exact beq_eq_false_iff_ne.2 (by omega))) rfl rfl rfl ?_
   refine AO.op (O.move rfl rfl) rfl rfl rfl ?_
   refine AO.opRow (O.call rfl Tryz.func63 rfl rfl rfl (hkp _ (by rfl))) rfl rfl rfl ?_
   intro V2 hV2
   refine AO.op (O.assign rfl rfl) rfl rfl rfl ?_
   refine AO.nil ?_
   refine AQ.thenN ?_
   refine AW.seq ?_
   refine AW.region ?_
   refine AO.op (O.move rfl rfl) rfl rfl rfl ?_
   refine AO.op (O.move rfl rfl) rfl rfl rfl ?_
   refine AO.op (O.move rfl rfl) rfl rfl rfl ?_
   (refine AO.op (O.callL rfl Tryz.func64 rfl rfl rfl (by repeat (exact List.Mem.head _)) (hfi) (by (repeat (first | exact LendL.nil | refine LendL.same ?_ | refine LendL.lend ?_)); done)) rfl rfl rfl ?_)
   refine AO.op (O.assign rfl rfl) rfl rfl rfl ?_
   refine AO.nil ?_
   refine AQ.thenN ?_
   refine AW.seq ?_
   refine AW.region ?_
   refine AO.op (O.assign rfl rfl) rfl rfl rfl ?_
   refine AO.nil ?_
   refine AQ.thenN ?_
   refine AW.seq ?_
   refine AW.seq ?_
   refine AW.region ?_
   refine AO.op (O.fieldAddr rfl rfl) rfl rfl rfl ?_
   refine AO.op (O.load rfl rfl (by repeat (first | exact List.Mem.head _ | refine List.Mem.tail _ ?_)) (by rfl)) rfl rfl rfl ?_
   refine AO.op (O.gtr rfl rfl rfl (by exact bTrue (by omega))) rfl rfl rfl ?_
   refine AO.nil ?_
   refine AQ.thenN ?_
   refine AW.split rfl (fun h94 => ?_) (fun h94 => ?_) <;> (try simp only [decide_eq_true_eq, decide_eq_false_iff_not, beq_iff_eq, beq_eq_false_iff_ne, bne_iff_ne, bne_eq_false_iff_eq, Bool.not_eq_true', Bool.not_eq_false', Bool.not_eq_true, Bool.not_eq_false, ne_eq, Int.not_lt, Int.not_le, Bool.and_eq_true, Bool.or_eq_true, Bool.or_eq_false_iff, Bool.and_eq_false_imp, strOf_toList, Decidable.not_not] at h94)
   ·skip
    refine AW.g ?_
    refine G.openRow 0 rfl (by omega) (fun b' cap hc1 hc2 hxs hVe => ?_)
    refine AW.u ?_
    subst hVe
    refine AW.g ?_
    dsimp only [List.set]
    refine AW.u ?_
    refine AW.seq ?_
    refine AW.seq ?_
    refine AW.regionD 15 (by kernel_rfl) (by kernel_rfl) ?_
    simp only [List.take_succ_cons, List.take_zero, List.drop_succ_cons, List.drop_zero]
    refine FA.op (O.move rfl rfl) rfl rfl rfl rfl ?_
    refine FA.op (O.lss rfl rfl rfl (by exact bFalse (by omega))) rfl rfl rfl rfl ?_
    refine FA.op (O.move rfl rfl) rfl rfl rfl rfl ?_
    refine FA.op (O.move rfl rfl) rfl rfl rfl rfl ?_
    refine FA.op (O.move rfl rfl) rfl rfl rfl rfl ?_
    refine FA.op (O.idxV rfl rfl rfl ⟨(by omega), (by omega)⟩) rfl rfl rfl rfl ?_
    refine FA.op (O.fieldAddr rfl rfl) rfl rfl rfl rfl ?_
    refine FA.op (O.load rfl rfl (by repeat (exact List.Mem.head _)) (by rfl)) rfl rfl rfl rfl ?_
    refine FA.op (O.lenR rfl rfl) rfl rfl rfl rfl ?_
    refine FA.op (O.fieldAddr rfl rfl) rfl rfl rfl rfl ?_
    refine FA.op (O.load rfl rfl (by repeat (first | exact List.Mem.head _ | refine List.Mem.tail _ ?_)) (by rfl)) rfl rfl rfl rfl ?_
    refine FA.op (O.move rfl rfl) rfl rfl rfl rfl ?_
    refine FA.op (O.mul rfl rfl rfl (by exact wI64 (by omega))) rfl rfl rfl rfl ?_
    refine FA.op (O.neq rfl rfl rfl (by exact bne_eq_false_iff_eq.2 (by omega))) rfl rfl rfl rfl ?_
    refine FA.op (O.pickF rfl rfl rfl) rfl rfl rfl rfl ?_
    refine FA.nil ?_
    simp only [chosen, List.nil_append, List.cons_append, List.append_nil]
    refine AO.nil ?_
    refine AQ.thenN ?_
    refine AW.split rfl (fun h109 => ?_) (fun h109 => ?_) <;> (try simp only [decide_eq_true_eq, decide_eq_false_iff_not, beq_iff_eq, beq_eq_false_iff_ne, bne_iff_ne, bne_eq_false_iff_eq, Bool.not_eq_true', Bool.not_eq_false', Bool.not_eq_true, Bool.not_eq_false, ne_eq, Int.not_lt, Int.not_le, Bool.and_eq_true, Bool.or_eq_true, Bool.or_eq_false_iff, Bool.and_eq_false_imp, strOf_toList, Decidable.not_not] at h109)
    ·skip
     exact absurd h109 (by simp)
    ·skip
     refine AW.skip ?_
     refine AQ.thenN ?_
     refine AW.region ?_
     refine AO.op (O.move rfl rfl) rfl rfl rfl ?_
     refine AO.op (O.move rfl rfl) rfl rfl rfl ?_
     refine AO.op (O.idxV rfl rfl rfl ⟨(by omega), (by omega)⟩) rfl rfl rfl ?_
     refine AO.op (O.fieldAddr rfl rfl) rfl rfl rfl ?_
     refine AO.op (O.load rfl rfl (by repeat (exact List.Mem.head _)) (by rfl)) rfl rfl rfl ?_
     refine AO.op (O.assign rfl rfl) rfl rfl rfl ?_
     refine AO.nil ?_
     refine AQ.thenN ?_
     refine AW.seq ?_
     refine AW.seq ?_
     refine AW.region ?_
     refine AO.op (O.move rfl rfl) rfl rfl rfl ?_
     refine AO.op (O.lenR rfl rfl) rfl rfl rfl ?_
     refine AO.op (O.move rfl rfl) rfl rfl rfl ?_
     refine AO.op (O.lenR rfl rfl) rfl rfl rfl ?_
     refine AO.op (O.add rfl rfl rfl (by exact wI64 (by omega))) rfl rfl rfl ?_
     refine AO.op (O.gtr rfl rfl rfl (by exact bFalse (by omega))) rfl rfl rfl ?_
     refine AO.nil ?_
     refine AQ.thenN ?_
     refine AW.split rfl (fun h120 => ?_) (fun h120 => ?_) <;> (try simp only [decide_eq_true_eq, decide_eq_false_iff_not, beq_iff_eq, beq_eq_false_iff_ne, bne_iff_ne, bne_eq_false_iff_eq, Bool.not_eq_true', Bool.not_eq_false', Bool.not_eq_true, Bool.not_eq_false, ne_eq, Int.not_lt, Int.not_le, Bool.and_eq_true, Bool.or_eq_true, Bool.or_eq_false_iff, Bool.and_eq_false_imp, strOf_toList, Decidable.not_not] at h120)
     ·skip
      exact absurd h120 (by simp)
     ·skip
      refine AW.skip ?_
      refine AQ.thenN ?_
      refine AW.seq ?_
      refine AW.region ?_
      refine AO.op (O.move rfl rfl) rfl rfl rfl ?_
      refine AO.opRow (O.call rfl Tryz.func49 rfl rfl rfl (cloneB_fn data (by omega))) rfl rfl rfl ?_
      intro V3 hV3
      refine AO.op (O.move rfl rfl) rfl rfl rfl ?_
      (refine AO.append' (i := 0) rfl rfl rfl rfl (by rfl) (by rfl) rfl rfl rfl (by exact SrcA.ro TyD.ax (by (simp; done)) (Nat.le_of_ble_eq_true rfl)) (by (simp [AV.cells, AV.one, *]; done)) (by (unfold maxLen; omega)) (by omega) (by (dsimp only [List.set, List.cons_append, List.nil_append, List.take, List.drop]; done)) (fun _ => by (dsimp only [List.set]; done)) ?_)
      intro V4 hV4
      refine AO.op (O.assign rfl rfl) rfl rfl rfl ?_
      refine AO.nil ?_
      refine AQ.thenN ?_
      refine AW.seq ?_
      refine AW.block ?_
      refine AW.seq ?_
      refine AW.region ?_
      refine AO.op (O.fieldAddr rfl rfl) rfl rfl rfl ?_
      refine AO.op (O.load rfl rfl (by repeat (first | exact List.Mem.head _ | refine List.Mem.tail _ ?_)) (by rfl)) rfl rfl rfl ?_
      refine AO.op (O.not rfl rfl (by rfl)) rfl rfl rfl ?_
      refine AO.op (O.move rfl rfl) rfl rfl rfl ?_
      refine AO.opG rfl rfl rfl (fun hp => O.move rfl rfl) ?_
      refine AO.opG rfl rfl rfl (fun hp => OpW.force 130 rfl (by exact hp) (O.geq rfl rfl rfl (by exact bTrue (by omega)))) ?_
      refine AO.op (O.pickAnd rfl rfl rfl rfl (fun h => by exact h)) rfl rfl rfl ?_
      refine AO.op (O.assign rfl rfl) rfl rfl rfl ?_
      refine AO.nil ?_
      refine AQ.thenN ?_
      refine AW.split rfl (fun h125 => ?_) (fun h125 => ?_) <;> (try simp only [decide_eq_true_eq, decide_eq_false_iff_not, beq_iff_eq, beq_eq_false_iff_ne, bne_iff_ne, bne_eq_false_iff_eq, Bool.not_eq_true', Bool.not_eq_false', Bool.not_eq_true, Bool.not_eq_false, ne_eq, Int.not_lt, Int.not_le, Bool.and_eq_true, Bool.or_eq_true, Bool.or_eq_false_iff, Bool.and_eq_false_imp, strOf_toList, Decidable.not_not] at h125)
      ·skip
       exact absurd (hmo.symm.trans h125.1) (by simp)
      ·skip
       refine AW.seq ?_
       refine AW.region ?_
       refine AO.op (O.fieldAddr rfl rfl) rfl rfl rfl ?_
       refine AO.op (O.load rfl rfl (by repeat (first | exact List.Mem.head _ | refine List.Mem.tail _ ?_)) (by rfl)) rfl rfl rfl ?_
       refine AO.op (O.not rfl rfl (by rfl)) rfl rfl rfl ?_
       refine AO.op (O.assign rfl rfl) rfl rfl rfl ?_
       refine AO.nil ?_
       refine AQ.thenN ?_
       refine AW.split rfl (fun h142 => ?_) (fun h142 => ?_) <;> (try simp only [decide_eq_true_eq, decide_eq_false_iff_not, beq_iff_eq, beq_eq_false_iff_ne, bne_iff_ne, bne_eq_false_iff_eq, Bool.not_eq_true', Bool.not_eq_false', Bool.not_eq_true, Bool.not_eq_false, ne_eq, Int.not_lt, Int.not_le, Bool.and_eq_true, Bool.or_eq_true, Bool.or_eq_false_iff, Bool.and_eq_false_imp, strOf_toList, Decidable.not_not] at h142)
       ·skip
        exact absurd (hmo.symm.trans h142) (by simp)
       ·skip
        refine AW.seq ?_
        refine AW.region ?_
        refine AO.op (O.move rfl rfl) rfl rfl rfl ?_
        refine AO.op (O.geq rfl rfl rfl (by exact bTrue (by omega))) rfl rfl rfl ?_
        refine AO.op (O.assign rfl rfl) rfl rfl rfl ?_
        refine AO.nil ?_
        refine AQ.thenN ?_
        refine AW.split rfl (fun h148 => ?_) (fun h148 => ?_) <;> (try simp only [decide_eq_true_eq, decide_eq_false_iff_not, beq_iff_eq, beq_eq_false_iff_ne, bne_iff_ne, bne_eq_false_iff_eq, Bool.not_eq_true', Bool.not_eq_false', Bool.not_eq_true, Bool.not_eq_false, ne_eq, Int.not_lt, Int.not_le, Bool.and_eq_true, Bool.or_eq_true, Bool.or_eq_false_iff, Bool.and_eq_false_imp, strOf_toList, Decidable.not_not] at h148)
        ·skip
         rw [show bytesA data ++ bytesA pay = bytesA (data ++ pay) from (List.map_append ..).symm, show data.length + pay.length = (data ++ pay).length from List.length_append.symm]
         refine AW.g ?_
         (refine G.freezeRow 0 rfl [18] (by (repeat (first | exact frNil | refine frCons rfl ?_)); done) ?_)
         refine AW.u ?_
         try dsimp only [List.map, List.eraseIdx, List.cons_append, List.nil_append]
         refine AW.seq ?_
         refine AW.region ?_
         refine AO.op (O.move rfl rfl) rfl rfl rfl ?_
         refine AO.op (O.move rfl rfl) rfl rfl rfl ?_
         refine AO.op (O.move rfl rfl) rfl rfl rfl ?_
         refine AO.op (O.move rfl rfl) rfl rfl rfl ?_
         refine AO.op (O.move rfl rfl) rfl rfl rfl ?_
         refine AO.op (O.move rfl rfl) rfl rfl rfl ?_
         refine AO.op (O.add rfl rfl rfl (by exact wI64 (by omega))) rfl rfl rfl ?_
         refine AO.op (O.idxV rfl rfl rfl ⟨(by omega), (by omega)⟩) rfl rfl rfl ?_
         refine AO.op (O.fieldAddr rfl rfl) rfl rfl rfl ?_
         (refine AO.store (i := 0) rfl rfl rfl rfl rfl rfl (by rfl) (by rfl) (by rfl) (by (dsimp only [List.set, List.cons_append, List.nil_append, List.take, List.drop]; done)) (by (dsimp only [List.set, List.cons_append, List.nil_append, List.take, List.drop]; done)) ?_)
         refine AO.op (O.idxV rfl rfl rfl ⟨(by omega), (by omega)⟩) rfl rfl rfl ?_
         refine AO.op (O.fieldAddr rfl rfl) rfl rfl rfl ?_
         (refine AO.store (i := 0) rfl rfl rfl rfl rfl rfl (by rfl) (by rfl) (by rfl) (by (dsimp only [List.set, List.cons_append, List.nil_append, List.take, List.drop]; done)) (by (dsimp only [List.set, List.cons_append, List.nil_append, List.take, List.drop]; done)) ?_)
         refine AO.nil ?_
         refine AQ.thenN ?_
         refine AW.seq ?_
         refine AW.region ?_
         refine AO.op (O.move rfl rfl) rfl rfl rfl ?_
         refine AO.op (O.assign rfl rfl) rfl rfl rfl ?_
         refine AO.op (O.assign rfl rfl) rfl rfl rfl ?_
         refine AO.op (O.assign rfl rfl) rfl rfl rfl ?_
         refine AO.op (O.assign rfl rfl) rfl rfl rfl ?_
         refine AO.nil ?_
         refine AQ.thenN ?_
         refine AW.ret ?_
         refine AQ.blockR ?_
         refine AQ.thenR ?_
         dsimp only [Int.toNat_zero, Nat.zero_mul, Nat.zero_add, List.set]
         refine AQ.g ?_
         refine G.closeRow (b := b') 0 rfl (by rfl) rfl hc1 hc2 ?_
         refine AQ.u ?_
         dsimp only [List.set]
         refine AQ.g ?_
         (refine G.freezeRow 0 rfl [12] (by (repeat (first | exact frNil | refine frCons rfl ?_)); done) ?_)
         refine AQ.u ?_
         try dsimp only [List.map, List.eraseIdx, List.cons_append, List.nil_append]
         refine FnQ.coe (AQ.ret4G rfl (by exact ResAt.tmp rfl) (by exact ResAt.tmp rfl) (by exact ResAt.tmp rfl) (by exact ResAt.tmp rfl) ⟨_, List.nil_sublist _, .nil⟩ ⟨rfl, rfl⟩) (Coe.tup (by (repeat (first | exact CoeL.nil | refine CoeL.cons Coe.rfl ?_ | refine CoeL.cons Coe.nil ?_)); done)) (⟨rfl, rfl⟩)
        ·skip
         exact absurd h148 (by simp)
   ·skip
    exact absurd h94 (by simp)
theorem bput5_fn (sz num till now : Int) (data pay : List UInt8) (mo : Bool) (hmo : mo = false) (hs : 0 ≤ sz ∧ sz ≤ 2) (hnow : 0 ≤ now ∧ now ≤ 1000000) (hnum : 0 < num ∧ num ≤ 1000) (hd : data.length ≤ 300) (hdn : num * ((szN sz : Nat) : Int) = (data.length : Int)) (ht : 0 ≤ till) (hp : pay.length ≤ szN sz) (hp0 : 0 < pay.length) (hlive : now < till) :
  Sp Tryz.prog 28 [roPt [ptU data till], .val (.int .i64 0), roB [], blkA num mo sz, roB pay, .val (.int .i64 now)] [] (Is (.tup [roPt [], roB (data ++ pay), .val (.bool true), .val (.int .i64 0)])) := by
 have hva : Sp Tryz.prog 62 [roPt [ptU data till]] [] (Is (.val (.bool true))) := bvalid_fn _ (ptU_val (by omega) ht)
 have hkp := hkp_live (data := data) (till := till) (now := now) hd hlive
 have hfi : Sp Tryz.prog 64 [.ro false 1 (cptU data till), .val (.int .i64 0), roB []] [] (Is (.val (.int .i64 0))) := bfind_fn [ptU data till] 0 [] (by simp)
 have hsz := szN_in hs
 have hbl := blen_fn sz hs
 generalize szN sz = n at *
 refine Sp.enter Tryz.func28 rfl _ Tryz.ntmps28 rfl (fun w0 R0 => ?_)
 refine AW.seq ?_
 refine AW.region ?_
 refine AO.opB (O.box rfl rfl rfl rfl rfl) rfl rfl rfl ?_
 intro B1
 refine AO.op (O.assign rfl rfl) rfl rfl rfl ?_
 refine AO.op (O.assign rfl rfl) rfl rfl rfl ?_
 refine AO.op (O.assign rfl rfl) rfl rfl rfl ?_
 refine AO.op (O.assign rfl rfl) rfl rfl rfl ?_
 refine AO.nil ?_
 refine AQ.thenN ?_
 refine AW.seq ?_
 refine AW.seq ?_
 refine AW.region ?_
 refine AO.op (O.move rfl rfl) rfl rfl rfl ?_
 refine AO.op (O.call rfl Tryz.func62 rfl rfl rfl (hva)) rfl rfl rfl ?_
 refine AO.op (O.not rfl rfl (by rfl)) rfl rfl rfl ?_
 refine AO.op (O.move rfl rfl) rfl rfl rfl ?_
 refine AO.op (O.move rfl rfl) rfl rfl rfl ?_
 refine AO.op (O.lss rfl rfl rfl (by exact bFalse (by omega))) rfl rfl rfl ?_
 refine AO.op (O.pickF rfl rfl rfl) rfl rfl rfl ?_
 refine AO.op (O.move rfl rfl) rfl rfl rfl ?_
 refine AO.op (O.move rfl rfl) rfl rfl rfl ?_
 refine AO.op (O.gtr rfl rfl rfl (by exact bFalse (by omega))) rfl rfl rfl ?_
 refine AO.op (O.pickF rfl rfl rfl) rfl rfl rfl ?_
 refine AO.op (O.move rfl rfl) rfl rfl rfl ?_
 refine AO.op (O.move rfl rfl) rfl rfl rfl ?_
 refine AO.op (O.lenR rfl rfl) rfl rfl rfl ?_
 refine AO.op (O.gtr rfl rfl rfl (by rfl)) rfl rfl rfl ?_
 refine AO.op (O.pickF rfl rfl rfl) rfl rfl rfl ?_
 refine AO.op (O.move rfl rfl) rfl rfl rfl ?_
 (refine AO.op (O.loadK rfl rfl (by repeat (exact List.Mem.head _)) (by (dsimp only [List.set, List.cons_append, List.nil_append, List.take, List.drop]; done)) (by rfl)) rfl rfl rfl ?_)
 refine AO.op (O.call rfl Tryz.func60 rfl rfl rfl (bsound_fn _ _ _ ⟨by omega, by omega⟩ ⟨by omega, by omega⟩)) rfl rfl rfl ?_
 refine AO.op (O.not rfl rfl (by rfl)) rfl rfl rfl ?_
 refine AO.op (O.pickF rfl rfl rfl) rfl rfl rfl ?_
 refine AO.op (O.move rfl rfl) rfl rfl rfl ?_
 refine AO.op (O.move rfl rfl) rfl rfl rfl ?_
 refine AO.op (O.lss rfl rfl rfl (by exact bFalse (by omega))) rfl rfl rfl ?_
 refine AO.op (O.pickF rfl rfl rfl) rfl rfl rfl ?_
 refine AO.op (O.move rfl rfl) rfl rfl rfl ?_
 refine AO.op (O.move rfl rfl) rfl rfl rfl ?_
 refine AO.op (O.gtr rfl rfl rfl (by exact bFalse (by omega))) rfl rfl rfl ?_
 refine AO.op (O.pickF rfl rfl rfl) rfl rfl rfl ?_
 refine AO.nil ?_
 refine AQ.thenN ?_
 refine AW.split rfl (fun h47 => ?_) (fun h47 => ?_) <;> (try simp only [decide_eq_true_eq, decide_eq_false_iff_not, beq_iff_eq, beq_eq_false_iff_ne, bne_iff_ne, bne_eq_false_iff_eq, Bool.not_eq_true', Bool.not_eq_false', Bool.not_eq_true, Bool.not_eq_false, ne_eq, Int.not_lt, Int.not_le, Bool.and_eq_true, Bool.or_eq_true, Bool.or_eq_false_iff, Bool.and_eq_false_imp, strOf_toList, Decidable.not_not] at h47)
 ·skip
  exact absurd h47 (by simp)
 ·skip
  refine AW.skip ?_
  refine AQ.thenN ?_
  refine AW.seq ?_
  refine AW.region ?_
  refine AO.op (O.fieldAddr rfl rfl) rfl rfl rfl ?_
  refine AO.op (O.load rfl rfl (by repeat (exact List.Mem.head _)) (by rfl)) rfl rfl rfl ?_
  refine AO.op (O.call rfl Tryz.func61 rfl rfl rfl (hbl)) rfl rfl rfl ?_
  refine AO.op (O.assign rfl rfl) rfl rfl rfl ?_
  refine AO.nil ?_
  refine AQ.thenN ?_
  refine AW.seq ?_
  refine AW.seq ?_
  refine AW.region ?_
  refine AO.op (O.fieldAddr rfl rfl) rfl rfl rfl ?_
  refine AO.op (O.load rfl rfl (by repeat (exact List.Mem.head _)) (by rfl)) rfl rfl rfl ?_
  refine AO.op (O.move rfl rfl) rfl rfl rfl ?_
  refine AO.opG rfl rfl rfl (fun hp => O.move rfl rfl) ?_
  refine AO.opG rfl rfl rfl (fun hp => OpW.force 54 rfl (by exact hp) (O.lenR rfl rfl)) ?_
  refine AO.opG rfl rfl rfl (fun hp => O.move rfl rfl) ?_
  refine AO.opG rfl rfl rfl (fun hp => OpW.force 55 rfl (by exact hp) (OpW.force 56 rfl (by exact hp) (O.neq rfl rfl rfl (by rfl)))) ?_
  refine AO.op (O.pickAnd rfl rfl rfl rfl (fun h => by exact h)) rfl rfl rfl ?_
  refine AO.op (O.move rfl rfl) rfl rfl rfl ?_
  refine AO.opG rfl rfl rfl (fun hp => O.fieldAddr rfl rfl) ?_
  refine AO.opG rfl rfl rfl (fun hp => OpW.force 60 rfl (by exact hp) (O.load rfl rfl (by repeat (exact List.Mem.head _)) (by rfl))) ?_
  refine AO.opG rfl rfl rfl (fun hp => OpW.force 61 rfl (by exact hp) (O.not rfl rfl (by rfl))) ?_
  refine AO.opG rfl rfl rfl (fun hp => OpW.force 62 rfl (by exact hp) (O.move rfl rfl)) ?_
  refine AO.opG rfl rfl rfl (fun hp => O.move rfl rfl) ?_
  refine AO.opG rfl rfl rfl (fun hp => OpW.force 64 rfl (by exact hp) (O.lenR rfl rfl)) ?_
  refine AO.opG rfl rfl rfl (fun hp => O.move rfl rfl) ?_
  refine AO.opG rfl rfl rfl (fun hp => OpW.force 65 rfl (by exact hp) (OpW.force 66 rfl (by exact hp) (O.gtr rfl rfl rfl (by exact bFalse (by omega))))) ?_
  refine AO.opG rfl rfl rfl (fun hp => OpW.force 67 rfl (by exact hp) (O.move rfl rfl)) ?_
  refine AO.opG rfl rfl rfl (fun hp => O.move rfl rfl) ?_
  refine AO.opG rfl rfl rfl (fun hp => OpW.force 69 rfl (by exact hp) (O.lenR rfl rfl)) ?_
  refine AO.opG rfl rfl rfl (fun hp => OpW.force 70 rfl (by exact hp) (O.eql rfl rfl rfl (by exact beq_eq_false_iff_ne.2 (by omega)))) ?_
  refine AO.opG rfl rfl rfl (fun hp => OpW.force 71 rfl (by exact hp) (O.move rfl rfl)) ?_
  refine AO.opG rfl rfl rfl (fun hp => O.fieldAddr rfl rfl) ?_
  refine AO.opG rfl rfl rfl (fun hp => OpW.force 73 rfl (by exact hp) (O.load rfl rfl (by repeat (exact List.Mem.head _)) (by rfl))) ?_
  refine AO.opG rfl rfl rfl (fun hp => OpW.force 74 rfl (by exact hp) (O.gtr rfl rfl rfl (by exact bTrue (by omega)))) ?_
  refine AO.opG rfl rfl rfl (fun hp => OpW.force 72 rfl (by exact hp) (O.pickAnd rfl rfl rfl rfl (fun h => by simp_all))) ?_
  refine AO.opG rfl rfl rfl (fun hp => OpW.force 68 rfl (by exact hp) (O.pickOr rfl rfl rfl rfl (fun h => by simp_all))) ?_
  refine AO.opG rfl rfl rfl (fun hp => OpW.force 63 rfl (by exact hp) (O.pickAnd rfl rfl rfl rfl (fun h => by simp_all))) ?_
  refine AO.op (O.pickOr rfl rfl rfl rfl (fun h => by exact congrArg (fun b => !b) h)) rfl rfl rfl ?_
  refine AO.nil ?_
  refine AQ.thenN ?_
  refine AW.split rfl (fun h79 => ?_) (fun h79 => ?_) <;> (try simp only [decide_eq_true_eq, decide_eq_false_iff_not, beq_iff_eq, beq_eq_false_iff_ne, bne_iff_ne, bne_eq_false_iff_eq, Bool.not_eq_true', Bool.not_eq_false', Bool.not_eq_true, Bool.not_eq_false, ne_eq, Int.not_lt, Int.not_le, Bool.and_eq_true, Bool.or_eq_true, Bool.or_eq_false_iff, Bool.and_eq_false_imp, strOf_toList, Decidable.not_not] at h79)
  ·skip
   exfalso
   rcases h79 with ⟨h1, h2⟩ | ⟨h1, h2⟩
   ·rw [hmo] at h1; cases h1
   ·(simp at h2; done)
  ·skip
   refine AW.skip ?_
   refine AQ.thenN ?_
   refine AW.seq ?_
   refine AW.region ?_
   refine AO.op (O.move rfl rfl) rfl rfl rfl ?_
   refine AO.op (O.move rfl rfl) rfl rfl rfl ?_
   refine AO.op (O.move rfl rfl) rfl rfl rfl ?_
   refine AO.op (O.fieldAddr rfl rfl) rfl rfl rfl ?_
   refine AO.op (O.load rfl rfl (by repeat (exact List.Mem.head _)) (by rfl)) rfl rfl rfl ?_
   refine AO.op (O.eql rfl rfl rfl (by exact beq_eq_false_iff_ne.2 (by omega))) rfl rfl rfl ?_
   refine AO.op (O.move rfl rfl) rfl rfl rfl ?_
   refine AO.opRow (O.call rfl Tryz.func63 rfl rfl rfl (hkp _ (by rfl))) rfl rfl rfl ?_
   intro V2 hV2
   refine AO.op (O.assign rfl rfl) rfl rfl rfl ?_
   refine AO.nil ?_
   refine AQ.thenN ?_
   refine AW.seq ?_
   refine AW.region ?_
   refine AO.op (O.move rfl rfl) rfl rfl rfl ?_
   refine AO.op (O.move rfl rfl) rfl rfl rfl ?_
   refine AO.op (O.move rfl rfl) rfl rfl rfl ?_
   (refine AO.op (O.callL rfl Tryz.func64 rfl rfl rfl (by repeat (exact List.Mem.head _)) (hfi) (by (repeat (first | exact LendL.nil | refine LendL.same ?_ | refine LendL.lend ?_)); done)) rfl rfl rfl ?_)
   refine AO.op (O.assign rfl rfl) rfl rfl rfl ?_
   refine AO.nil ?_
   refine AQ.thenN ?_
   refine AW.seq ?_
   refine AW.region ?_
   refine AO.op (O.assign rfl rfl) rfl rfl rfl ?_
   refine AO.nil ?_
   refine AQ.thenN ?_
   refine AW.seq ?_
   refine AW.seq ?_
   refine AW.region ?_
   refine AO.op (O.fieldAddr rfl rfl) rfl rfl rfl ?_
   refine AO.op (O.load rfl rfl (by repeat (first | exact List.Mem.head _ | refine List.Mem.tail _ ?_)) (by rfl)) rfl rfl rfl ?_
   refine AO.op (O.gtr rfl rfl rfl (by exact bTrue (by omega))) rfl rfl rfl ?_
   refine AO.nil ?_
   refine AQ.thenN ?_
   refine AW.split rfl (fun h94 => ?_) (fun h94 => ?_) <;> (try simp only [decide_eq_true_eq, decide_eq_false_iff_not, beq_iff_eq, beq_eq_false_iff_ne, bne_iff_ne, bne_eq_false_iff_eq, Bool.not_eq_true', Bool.not_eq_false', Bool.not_eq_true, Bool.not_eq_false, ne_eq, Int.not_lt, Int.not_le, Bool.and_eq_true, Bool.or_eq_true, Bool.or_eq_false_iff, Bool.and_eq_false_imp, strOf_toList, Decidable.not_not] at h94)
   ·skip
    refine AW.g ?_
    refine G.openRow 0 rfl (by omega) (fun b' cap hc1 hc2 hxs hVe => ?_)
    refine AW.u ?_
    subst hVe
    refine AW.g ?_
    dsimp only [List.set]
    refine AW.u ?_
    refine AW.seq ?_
    refine AW.seq ?_
    refine AW.regionD 15 (by kernel_rfl) (by kernel_rfl) ?_
    simp only [List.take_succ_cons, List.take_zero, List.drop_succ_cons, List.drop_zero]
    refine FA.op (O.move rfl rfl) rfl rfl rfl rfl ?_
    refine FA.op (O.lss rfl rfl rfl (by exact bFalse (by omega))) rfl rfl rfl rfl ?_
    refine FA.op (O.move rfl rfl) rfl rfl rfl rfl ?_
    refine FA.op (O.move rfl rfl) rfl rfl rfl rfl ?_
    refine FA.op (O.move rfl rfl) rfl rfl rfl rfl ?_
    refine FA.op (O.idxV rfl rfl rfl ⟨(by omega), (by omega)⟩) rfl rfl rfl rfl ?_
    refine FA.op (O.fieldAddr rfl rfl) rfl rfl rfl rfl ?_
    refine FA.op (O.load rfl rfl (by repeat (exact List.Mem.head _)) (by rfl)) rfl rfl rfl rfl ?_
    refine FA.op (O.lenR rfl rfl) rfl rfl rfl rfl ?_
    refine FA.op (O.fieldAddr rfl rfl) rfl rfl rfl rfl ?_
    refine FA.op (O.load rfl rfl (by repeat (first | exact List.Mem.head _ | refine List.Mem.tail _ ?_)) (by rfl)) rfl rfl rfl rfl ?_
    refine FA.op (O.move rfl rfl) rfl rfl rfl rfl ?_
    refine FA.op (O.mul rfl rfl rfl (by exact wI64 (by omega))) rfl rfl rfl rfl ?_
    refine FA.op (O.neq rfl rfl rfl (by exact bne_eq_false_iff_eq.2 (by omega))) rfl rfl rfl rfl ?_
    refine FA.op (O.pickF rfl rfl rfl) rfl rfl rfl rfl ?_
    refine FA.nil ?_
    simp only [chosen, List.nil_append, List.cons_append, List.append_nil]
    refine AO.nil ?_
    refine AQ.thenN ?_
    refine AW.split rfl (fun h109 => ?_) (fun h109 => ?_) <;> (try simp only [decide_eq_true_eq, decide_eq_false_iff_not, beq_iff_eq, beq_eq_false_iff_ne, bne_iff_ne, bne_eq_false_iff_eq, Bool.not_eq_true', Bool.not_eq_false', Bool.not_eq_true, Bool.not_eq_false, ne_eq, Int.not_lt, Int.not_le, Bool.and_eq_true, Bool.or_eq_true, Bool.or_eq_false_iff, Bool.and_eq_false_imp, strOf_toList, Decidable.not_not] at h109)
    ·skip
     exact absurd h109 (by simp)
    ·skip
     refine AW.skip ?_
     refine AQ.thenN ?_
     refine AW.region ?_
     refine AO.op (O.move rfl rfl) rfl rfl rfl ?_
     refine AO.op (O.move rfl rfl) rfl rfl rfl ?_
     refine AO.op (O.idxV rfl rfl rfl ⟨(by omega), (by omega)⟩) rfl rfl rfl ?_
     refine AO.op (O.fieldAddr rfl rfl) rfl rfl rfl ?_
     refine AO.op (O.load rfl rfl (by repeat (exact List.Mem.head _)) (by rfl)) rfl rfl rfl ?_
     refine AO.op (O.assign rfl rfl) rfl rfl rfl ?_
     refine AO.nil ?_
     refine AQ.thenN ?_
     refine AW.seq ?_
     refine AW.seq ?_
     refine AW.region ?_
     refine AO.op (O.move rfl rfl) rfl rfl rfl ?_
     refine AO.op (O.lenR rfl rfl) rfl rfl rfl ?_
     refine AO.op (O.move rfl rfl) rfl rfl rfl ?_
     refine AO.op (O.lenR rfl rfl) rfl rfl rfl ?_
     refine AO.op (O.add rfl rfl rfl (by exact wI64 (by omega))) rfl rfl rfl ?_
     refine AO.op (O.gtr rfl rfl rfl (by exact bFalse (by omega))) rfl rfl rfl ?_
     refine AO.nil ?_
     refine AQ.thenN ?_
     refine AW.split rfl (fun h120 => ?_) (fun h120 => ?_) <;> (try simp only [decide_eq_true_eq, decide_eq_false_iff_not, beq_iff_eq, beq_eq_false_iff_ne, bne_iff_ne, bne_eq_false_iff_eq, Bool.not_eq_true', Bool.not_eq_false', Bool.not_eq_true, Bool.not_eq_false, ne_eq, Int.not_lt, Int.not_le, Bool.and_eq_true, Bool.or_eq_true, Bool.or_eq_false_iff, Bool.and_eq_false_imp, strOf_toList, Decidable.not_not] at h120)
     ·skip
      exact absurd h120 (by simp)
     ·skip
      refine AW.skip ?_
      refine AQ.thenN ?_
      refine AW.seq ?_
      refine AW.region ?_
      refine AO.op (O.move rfl rfl) rfl rfl rfl ?_
      refine AO.opRow (O.call rfl Tryz.func49 rfl rfl rfl (cloneB_fn data (by omega))) rfl rfl rfl ?_
      intro V3 hV3
      refine AO.op (O.move rfl rfl) rfl rfl rfl ?_
      (refine AO.append' (i := 0) rfl rfl rfl rfl (by rfl) (by rfl) rfl rfl rfl (by exact SrcA.ro TyD.ax (by (simp; done)) (Nat.le_of_ble_eq_true rfl)) (by (simp [AV.cells, AV.one, *]; done)) (by (unfold maxLen; omega)) (by omega) (by (dsimp only [List.set, List.cons_append, List.nil_append, List.take, List.drop]; done)) (fun _ => by (dsimp only [List.set]; done)) ?_)
      intro V4 hV4
      refine AO.op (O.assign rfl rfl) rfl rfl rfl ?_
      refine AO.nil ?_
      refine AQ.thenN ?_
      refine AW.seq ?_
      refine AW.block ?_
      refine AW.seq ?_
      refine AW.region ?_
      refine AO.op (O.fieldAddr rfl rfl) rfl rfl rfl ?_
      refine AO.op (O.load rfl rfl (by repeat (first | exact List.Mem.head _ | refine List.Mem.tail _ ?_)) (by rfl)) rfl rfl rfl ?_
      refine AO.op (O.not rfl rfl (by rfl)) rfl rfl rfl ?_
      refine AO.op (O.move rfl rfl) rfl rfl rfl ?_
      refine AO.opG rfl rfl rfl (fun hp => O.move rfl rfl) ?_
      refine AO.opG rfl rfl rfl (fun hp => OpW.force 130 rfl (by exact hp) (O.geq rfl rfl rfl (by exact bTrue (by omega)))) ?_
      refine AO.op (O.pickAnd rfl rfl rfl rfl (fun h => by exact h)) rfl rfl rfl ?_
      refine AO.op (O.assign rfl rfl) rfl rfl rfl ?_
      refine AO.nil ?_
      refine AQ.thenN ?_
      refine AW.split rfl (fun h125 => ?_) (fun h125 => ?_) <;> (try simp only [decide_eq_true_eq, decide_eq_false_iff_not, beq_iff_eq, beq_eq_false_iff_ne, bne_iff_ne, bne_eq_false_iff_eq, Bool.not_eq_true', Bool.not_eq_false', Bool.not_eq_true, Bool.not_eq_false, ne_eq, Int.not_lt, Int.not_le, Bool.and_eq_true, Bool.or_eq_true, Bool.or_eq_false_iff, Bool.and_eq_false_imp, strOf_toList, Decidable.not_not] at h125)
      ·skip
       rw [show bytesA data ++ bytesA pay = bytesA (data ++ pay) from (List.map_append ..).symm, show data.length + pay.length = (data ++ pay).length from List.length_append.symm]
       refine AW.seq ?_
       refine AW.regionM [(0, false), (1, false), (2, false), (3, false), (4, false), (5, false), (6, false), (8, false), (7, true), (9, false), (10, false), (11, false), (12, false)] (by kernel_rfl) (by kernel_rfl) (by exact (by exact splitSl 0 1 rfl rfl splitNil)) ?_
       dsimp only [List.eraseIdx]
       refine AM.op rfl (O.move rfl rfl) rfl rfl rfl ?_
       refine AM.op rfl (O.move rfl rfl) rfl rfl rfl ?_
       refine AM.op rfl (O.sliceV rfl rfl rfl rfl ⟨by omega, by omega, by omega⟩ (by omega)) rfl rfl rfl ?_
       refine AM.op rfl (O.move rfl rfl) rfl rfl rfl ?_
       refine AM.op rfl (O.move rfl rfl) rfl rfl rfl ?_
       refine AM.op rfl (O.add rfl rfl rfl (by exact wI64 (by omega))) rfl rfl rfl ?_
       refine AM.op rfl (O.sliceV0 rfl rfl rfl rfl ⟨by omega, by omega, by omega⟩ (by omega) (by assumption)) rfl rfl rfl ?_
       refine AM.op rfl (O.move rfl rfl) rfl rfl rfl ?_
       refine AM.main _ rfl (fun w0 R0 => ?_)
       (refine AO.appendCut (i := 0) rfl rfl rfl rfl (by rfl) (by rfl) rfl rfl rfl (by omega) (by exact SrcA.ro TyD.ax (by rfl) (Nat.le_of_ble_eq_true rfl)) (by rfl) (by (unfold maxLen; omega)) (by omega) ⟨by omega, by assumption⟩ (by (dsimp only [List.set, List.cons_append, List.nil_append, List.take, List.drop]; done)) (fun _ => by (dsimp only [List.set]; done)) ?_)
       intro V5 hV5
       refine AM.ok ?_
       dsimp only [putE]
       refine AM.op rfl (O.assign rfl rfl) rfl rfl rfl ?_
       refine AM.op rfl (O.assign rfl rfl) rfl rfl rfl ?_
       refine AM.op rfl (O.assign rfl rfl) rfl rfl rfl ?_
       refine AM.op rfl (O.assign rfl rfl) rfl rfl rfl ?_
       refine AM.nil ?_
       dsimp only [List.cons_append, List.nil_append]
       refine AQ.thenN ?_
       refine AW.ret ?_
       refine AQ.blockR ?_
       refine AQ.thenR ?_
       refine AQ.g ?_
       (refine G.freezeRow 1 rfl [13] (by (repeat (first | exact frNil | refine frCons rfl ?_)); done) ?_)
       refine AQ.u ?_
       try dsimp only [List.map, List.eraseIdx, List.cons_append, List.nil_append]
       refine AQ.g ?_
       (refine G.freezeRow 0 rfl [12] (by (repeat (first | exact frNil | refine frCons rfl ?_)); done) ?_)
       refine AQ.u ?_
       try dsimp only [List.map, List.eraseIdx, List.cons_append, List.nil_append]
       refine FnQ.coe (AQ.ret4G rfl (by exact ResAt.tmp rfl) (by exact ResAt.tmp rfl) (by exact ResAt.tmp rfl) (by exact ResAt.tmp rfl) ⟨_, List.nil_sublist _, .nil⟩ ⟨rfl, rfl⟩) (Coe.tup (by (repeat (first | exact CoeL.nil | refine CoeL.cons Coe.rfl ?_)); done)) (⟨rfl, rfl⟩)
      ·skip
       exact absurd h125 (by simp [hmo])
   ·skip
    exact absurd h94 (by simp)
end Go.Proofs.YtoonnnifelnaiaaGreatDoor.By

namespace Go.Proofs.YtoonnnifelnaiaaGreatDoor.By
open Go.RowKit L A
set_option linter.unusedVariables false
set_option maxRecDepth 20000
set_option linter.unusedSimpArgs false
theorem cut_any (body : List UInt8) (i : Nat) (sz : Int) (hs : 0 ≤ sz ∧ sz ≤ 2) (hb : body.length ≤ 300) (hi : i ≤ 1000) : ∃ (cu : List UInt8) (mo : Bool) (e : Int),
  Sp Tryz.prog 24 [roB body, .val (.int .i64 (i : Int)), .val (.int .i64 sz)] [] (Is (.tup [roB cu, .val (.bool mo), .val (.int .i64 e)])) ∧ ((e = 0 ∧ hasB body (szN sz) i ∧ cu = cutB body (szN sz) i ∧ mo = moreB body (szN sz) i) ∨ e = 10) := by
 by_cases h : hasB body (szN sz) i
 ·exact ⟨_, _, _, cut_yes_fn body i sz hs hb hi h, .inl ⟨rfl, h, rfl, rfl⟩⟩
 ·exact ⟨_, _, _, cut_no_fn body i sz hs hb hi h, .inr rfl⟩
theorem put_any {body : List UInt8} {sz now last done : Int} {k : Nat} {parts : List Pt} (hs : 0 ≤ sz ∧ sz ≤ 2) (hb : body.length ≤ 300) (hk : k ≤ 1000) (h : SrvP body (szN sz) k parts last done) (hh : hasB body (szN sz) k) (hl : 0 ≤ last) (hn : 0 ≤ now ∧ now ≤ 1000000) :
  ∃ (ps : List Pt) (wh : List UInt8) (is : Bool) (e : Int), Sp Tryz.prog 28 [roPt parts, .val (.int .i64 0), roB [], blkA (k : Int) (moreB body (szN sz) k) sz, roB (cutB body (szN sz) k), .val (.int .i64 now)] [] (Is (.tup [roPt ps, roB wh, .val (.bool is), .val (.int .i64 e)])) ∧
   ((e = 15 ∧ 0 < k ∧ last + 128 ≤ now) ∨ (e = 0 ∧ is = false ∧ SrvP body (szN sz) (k + 1) ps now 0) ∨ (e = 0 ∧ is = true ∧ wh = body ∧ SrvP body (szN sz) (k + 1) ps now 1)) := by
 have hz := szN_in hs
 have hcn := cut_next body (szN sz) k
 have hcl := cutB_len body (szN sz) k
 obtain ⟨rfl, hx⟩ := h.next hh
 rcases hx with ⟨rfl, rfl⟩ | ⟨hk0, rfl⟩
 ·rw [Nat.zero_mul, List.take_zero, List.nil_append] at hcn
  cases hm : moreB body (szN sz) 0 with
  | true =>
   have hS := SrvP.step (now := now) hm
   rw [← hcn] at hS
   exact ⟨_, _, _, _, bput2_fn sz now _ true rfl hs hn (cut_more hm), .inr (.inl ⟨rfl, rfl, hS⟩)⟩
  | false =>
   exact ⟨_, _, _, _, bput1_fn sz now _ hs hn (by rw [hcl]; omega), .inr (.inr ⟨rfl, rfl, hcn.trans (cut_all hm), SrvP.last hm⟩)⟩
 ·have hlt : k * szN sz < body.length := by
   rcases hh with h | h
   ·omega
   ·exact h
  have hdl : (body.take (k * szN sz)).length = k * szN sz := by rw [List.length_take]; omega
  have hdn : (k : Int) * ((szN sz : Nat) : Int) = ((body.take (k * szN sz)).length : Int) := by rw [hdl, Int.natCast_mul]
  have hd3 : (body.take (k * szN sz)).length ≤ 300 := by omega
  by_cases hold : last + 128 ≤ now
  ·refine ⟨_, _, _, _, bput3_fn sz k (last + 128) now _ _ _ hs hn ⟨by omega, by omega⟩ hd3 (by omega) ⟨fun hm => cut_more hm, fun _ => by rw [hcl]; omega⟩ (by rw [hcl]; omega) hold, .inl ⟨rfl, hk0, hold⟩⟩
  ·cases hm : moreB body (szN sz) k with
   | true =>
    have hS := SrvP.step (now := now) hm
    rw [← hcn] at hS
    exact ⟨_, _, _, _, bput4_fn sz k (last + 128) now _ _ true rfl hs hn ⟨by omega, by omega⟩ hd3 hdn (by omega) (cut_more hm) (by omega), .inr (.inl ⟨rfl, rfl, hS⟩)⟩
   | false =>
    exact ⟨_, _, _, _, bput5_fn sz k (last + 128) now _ _ false rfl hs hn ⟨by omega, by omega⟩ hd3 hdn (by omega) (by rw [hcl]; omega) (by rw [hcl]; omega) (by omega), .inr (.inr ⟨rfl, rfl, hcn.trans (cut_all hm), SrvP.last hm⟩)⟩
end Go.Proofs.YtoonnnifelnaiaaGreatDoor.By

namespace Go.Proofs.YtoonnnifelnaiaaGreatDoor.By
open Go.RowKit L A
set_option linter.unusedVariables false
set_option maxRecDepth 20000
set_option linter.unusedSimpArgs false
abbrev reqT (i : Int) : Msg := ⟨0, 2, i, [u8 i], [], []⟩
abbrev ackT (i k : Int) : Msg := ⟨2, 68, i, [u8 i], [], [u8 k]⟩
/-! ### The client -/
structure Cl (a : Ep) (n : Nat) : Prop where
 v : ValE a
 nx : a.next = (n : Int)
 us : ∀ u ∈ a.used, u.id < (n : Int)
 ou : ∀ w ∈ a.out, w.m.id < (n : Int)
/-! ### The network and the server -/
def NetT (net : List Pk) (n : Nat) (now : Int) : Prop := ∀ q ∈ net, ∃ i : Int, 0 ≤ i ∧ i < (n : Int) ∧ q.m = reqT i ∧ 0 ≤ q.at_ ∧ q.at_ ≤ now
theorem NetT.later {net : List Pk} {n n' : Nat} {now now' : Int} (h : NetT net n now) (hn : n ≤ n') (hnow : now ≤ now') : NetT net n' now' := fun q hq => by
 obtain ⟨i, h2, h3, h4, h5, h6⟩ := h q hq
 exact ⟨i, h2, by omega, h4, h5, by omega⟩
theorem NetT.snoc {net : List Pk} {n : Nat} {now : Int} (h : NetT net n now) {q : Pk} {i : Int} (hi : 0 ≤ i ∧ i < (n : Int)) (hm : q.m = reqT i) (ha : 0 ≤ q.at_ ∧ q.at_ ≤ now) : NetT (net ++ [q]) n now := fun x hx => by
 rcases List.mem_append.1 hx with hx | hx
 ·exact h x hx
 ·obtain rfl := List.mem_singleton.1 hx
  exact ⟨i, hi.1, hi.2, hm, ha.1, ha.2⟩
def SrvB (b : Ep) (num : Int → Int) (D : List Int) : Prop := ∀ h ∈ b.inn, h.peer = 0 ∧ h.ans = true ∧ h.m = ackT h.id (num h.id) ∧ h.id ∈ D
theorem SrvB.clean {b : Ep} {num : Int → Int} {D : List Int} (h : SrvB b num D) (now : Int) : SrvB (cleanE b now) num D := fun x hx => h x (List.mem_filter.1 hx).1
def BackT (back : List Pk) (num : Int → Int) (D : List Int) : Prop := ∀ q ∈ back, ∃ i ∈ D, q.m = ackT i (num i)
def upd (num : Int → Int) (i k : Int) : Int → Int := fun j => if j = i then k else num j
theorem upd_same (num : Int → Int) (i k : Int) : upd num i k i = k := if_pos rfl
theorem upd_other (num : Int → Int) {i j k : Int} (h : j ≠ i) : upd num i k j = num j := if_neg h
theorem upd_mem {num : Int → Int} {D : List Int} {i j k : Int} (hd : i ∉ D) (hj : j ∈ D) : upd num i k j = num j := upd_other num (fun e => hd (by rw [← e]; exact hj))
structure NumT (num : Int → Int) (D : List Int) (n : Nat) : Prop where
 nd : D.Nodup
 inn : ∀ i ∈ D, 0 ≤ i ∧ i < (n : Int)
 rg : ∀ i ∈ D, 1 ≤ num i ∧ num i ≤ (D.length : Int)
theorem NumT.nil : NumT (fun _ => 0) [] 0 := ⟨List.nodup_nil, by simp, by simp⟩
theorem NumT.more {num : Int → Int} {D : List Int} {n n' : Nat} (h : NumT num D n) (hn : n ≤ n') : NumT num D n' := ⟨h.nd, fun i hi => by have := h.inn i hi; omega, h.rg⟩
theorem NumT.put {num : Int → Int} {D : List Int} {n : Nat} (h : NumT num D n) {i : Int} (hi : 0 ≤ i ∧ i < (n : Int)) (hd : i ∉ D) : NumT (upd num i (D.length + 1)) (i :: D) n := by
 refine ⟨List.nodup_cons.2 ⟨hd, h.nd⟩, fun j hj => ?_, fun j hj => ?_⟩
 ·rcases List.mem_cons.1 hj with rfl | hj
  ·exact hi
  ·exact h.inn j hj
 ·rw [List.length_cons]
  rcases List.mem_cons.1 hj with rfl | hj
  ·rw [upd_same]; omega
  ·rw [upd_mem hd hj]
   have := h.rg j hj
   omega
theorem BackT.put {back : List Pk} {num : Int → Int} {D : List Int} (h : BackT back num D) {i k : Int} (hd : i ∉ D) : BackT back (upd num i k) (i :: D) := fun q hq => by
 obtain ⟨j, hj, hm⟩ := h q hq
 exact ⟨j, List.mem_cons_of_mem _ hj, by rw [upd_mem hd hj]; exact hm⟩
theorem BackT.snoc {back : List Pk} {num : Int → Int} {D : List Int} (h : BackT back num D) {q : Pk} {i : Int} (hi : i ∈ D) (hm : q.m = ackT i (num i)) : BackT (back ++ [q]) num D := fun x hx => by
 rcases List.mem_append.1 hx with hx | hx
 ·exact h x hx
 ·obtain rfl := List.mem_singleton.1 hx
  exact ⟨i, hi, hm⟩
end Go.Proofs.YtoonnnifelnaiaaGreatDoor.By

namespace Go.Proofs.YtoonnnifelnaiaaGreatDoor.A
open Go.RowKit L
set_option linter.unusedVariables false
set_option maxRecDepth 20000
section
variable {P : Program} {k e : TypeId} {E : Env} {H : List HE} {N : Nat} {o : Oper}
end
end Go.Proofs.YtoonnnifelnaiaaGreatDoor.A
namespace Go.Proofs.YtoonnnifelnaiaaGreatDoor.By
open Go.RowKit L A
set_option linter.unusedVariables false
set_option linter.unusedSimpArgs false
instance : KeyT Tryz.prog 3 := ⟨Go.Maps.int_keyed Tryz.underlying3⟩
instance : ZeroT Tryz.prog 3 (.int .i64 0) := ⟨fun W => by kernel_rfl⟩
abbrev mapN (b : Nat) (M : Ents) : HE := mapHE Tryz.prog 3 3 b M
abbrev kN (i : Int) : Lit := .int .i64 i
def entN (num : Int → Int) (D : List Int) : Ents := D.map fun i => (kN i, kN (num i))
theorem pksB_snoc (l : List Pk) (m : Msg) (t : Int) : pksA l ++ [.val (.int .i64 m.ty), .val (.int .i64 m.code), .val (.int .i64 m.id), roB m.tok, roO m.opts, roB m.pay, .val (.int .i64 t)] = pksA (l ++ [(⟨m, t⟩ : Pk)]) := (pksA_snoc l ⟨m, t⟩).symm
end Go.Proofs.YtoonnnifelnaiaaGreatDoor.By

namespace Go.Proofs.YtoonnnifelnaiaaGreatDoor.By
open Go.RowKit L A Dk
set_option linter.unusedVariables false
set_option maxRecDepth 20000
set_option linter.unusedSimpArgs false
attribute [local irreducible] AW AQ AO
theorem pparse1_fn : Sp Tryz.prog 106 [.val (.string ⟨#[49]⟩), .val (.int .i64 10), .val (.int .i64 64)] [] (Is (.tup [.val (.int .u64 1), .val .nilIface])) := by
 refine Sp.enter Tryz.func106 rfl _ Tryz.ntmps106 rfl (fun w0 R0 => ?_)
 refine AW.seq ?_
 refine AW.region ?_
 refine AO.op (O.assign rfl rfl) rfl rfl rfl ?_
 refine AO.op (O.assign rfl rfl) rfl rfl rfl ?_
 refine AO.nil ?_
 refine AQ.thenN ?_
 refine AW.seq ?_
 refine AW.region ?_
 refine AO.op (O.move rfl rfl) rfl rfl rfl ?_
 refine AO.op (O.move rfl rfl) rfl rfl rfl ?_
 refine AO.op (O.move rfl rfl) rfl rfl rfl ?_
 refine AO.op (O.call rfl Tryz.func124 rfl rfl rfl (parse1_fn)) rfl rfl rfl ?_
 refine AO.op (O.move rfl rfl) rfl rfl rfl ?_
 refine AO.op (O.extract rfl rfl rfl) rfl rfl rfl ?_
 refine AO.op (O.extract rfl rfl rfl) rfl rfl rfl ?_
 refine AO.op (O.assign rfl rfl) rfl rfl rfl ?_
 refine AO.op (O.assign rfl rfl) rfl rfl rfl ?_
 refine AO.nil ?_
 refine AQ.thenN ?_
 refine AW.seq ?_
 refine AW.seq ?_
 refine AW.region ?_
 refine AO.op (O.move rfl rfl) rfl rfl rfl ?_
 refine AO.op (O.neqNilI ⟨_, Tryz.underlying175⟩ rfl rfl) rfl rfl rfl ?_
 refine AO.nil ?_
 refine AQ.thenN ?_
 refine AW.condF rfl ?_
 refine AW.skip ?_
 refine AQ.thenN ?_
 refine AW.seq ?_
 refine AW.region ?_
 refine AO.op (O.move rfl rfl) rfl rfl rfl ?_
 refine AO.op (O.assign rfl rfl) rfl rfl rfl ?_
 refine AO.op (O.assign rfl rfl) rfl rfl rfl ?_
 refine AO.nil ?_
 refine AQ.thenN ?_
 refine AW.ret ?_
 refine AQ.ret2 rfl rfl rfl ⟨_, List.nil_sublist _, .nil⟩ (⟨rfl, rfl⟩)
abbrev t1 : ByteArray := ⟨#[49, 93]⟩
abbrev t2 : ByteArray := ⟨#[93]⟩
theorem number_fn (B : Nat) : Sp Tryz.prog 103 [ptr B] [parsB B ⟨#[49, 93]⟩ 2 false] (IsM (.val (.int .u64 1)) (parsB B ⟨#[93]⟩ 2 false)) := by
 have z1 : (⟨#[49, 93]⟩ : ByteArray).size = 2 := rfl
 have x1 : (⟨#[49, 93]⟩ : ByteArray).extract 0 1 = ⟨#[49]⟩ := by decide +kernel
 have x2 : (⟨#[49, 93]⟩ : ByteArray).extract 1 (⟨#[49, 93]⟩ : ByteArray).size = ⟨#[93]⟩ := by decide +kernel
 have y1 : (⟨#[49, 93]⟩ : ByteArray).toList[(((0 : Nat) : Int)).toNat]? = some 49 := by decide +kernel
 have y2 : (⟨#[49, 93]⟩ : ByteArray).toList[(((1 : Nat) : Int)).toNat]? = some 93 := by decide +kernel
 have v1 : (((49 : UInt8).toNat : Nat) : Int) = 49 := rfl
 have v2 : (((93 : UInt8).toNat : Nat) : Int) = 93 := rfl
 refine Sp.enter Tryz.func103 rfl _ Tryz.ntmps103 rfl (fun w0 R0 => ?_)
 refine AW.seq ?_
 refine AW.region ?_
 refine AO.op (O.assign rfl rfl) rfl rfl rfl ?_
 refine AO.nil ?_
 refine AQ.thenN ?_
 refine AW.seq ?_
 refine AW.region ?_
 refine AO.op (O.assign rfl rfl) rfl rfl rfl ?_
 refine AO.nil ?_
 refine AQ.thenN ?_
 refine AW.seq ?_
 refine AW.block ?_
 refine AW.loopK [(0, _)] (fun nn E H => ∃ (k : Nat), (k ≤ 1) ∧ nn = 1 - k ∧ E = [(3, .val (.int .i64 (k : Int)))] ∧ H = [parsB B ⟨#[49, 93]⟩ 2 false]) _ (⟨0, by omega, rfl, rfl, rfl⟩) (by repeat (first | exact envNil | refine envCons rfl ?_)) (by repeat (first | exact envNil | refine envCons rfl ?_)) (by repeat (first | exact subPnil | refine subPcons 0 rfl ?_)) ?_
 rintro nn E H ⟨k, hk, rfl, rfl, rfl⟩
 dsimp only [List.cons_append, List.nil_append]
 obtain rfl | rfl : k = 0 ∨ k = 1 := by omega
 ·skip
  refine AW.seq ?_
  refine AW.seq ?_
  refine AW.region ?_
  refine AO.op (O.move rfl rfl) rfl rfl rfl ?_
  refine AO.op (O.move rfl rfl) rfl rfl rfl ?_
  refine AO.op (O.nilCheck rfl rfl) rfl rfl rfl ?_
  refine AO.op (O.fieldAddr rfl rfl) rfl rfl rfl ?_
  refine AO.op (O.load rfl rfl (by repeat (exact List.Mem.head _)) (by rfl)) rfl rfl rfl ?_
  refine AO.op (O.lenS rfl rfl) rfl rfl rfl ?_
  refine AO.op (O.lss rfl rfl rfl (by exact bTrue (by omega))) rfl rfl rfl ?_
  refine AO.op (O.move rfl rfl) rfl rfl rfl ?_
  refine AO.opG rfl rfl rfl (fun hp => O.move rfl rfl) ?_
  refine AO.opG rfl rfl rfl (fun hp => OpW.force 14 rfl (by exact hp) (O.nilCheck rfl rfl)) ?_
  refine AO.opG rfl rfl rfl (fun hp => OpW.force 15 rfl (by exact hp) (O.fieldAddr rfl rfl)) ?_
  refine AO.opG rfl rfl rfl (fun hp => OpW.force 16 rfl (by exact hp) (O.load rfl rfl (by repeat (exact List.Mem.head _)) (by rfl))) ?_
  refine AO.opG rfl rfl rfl (fun hp => O.move rfl rfl) ?_
  refine AO.opG rfl rfl rfl (fun hp => OpW.force 17 rfl (by exact hp) (OpW.force 18 rfl (by exact hp) (O.indexS rfl rfl rfl ⟨by omega, by assumption⟩))) ?_
  refine AO.opG rfl rfl rfl (fun hp => OpW.force 19 rfl (by exact hp) (O.geq rfl rfl rfl (by exact bTrue (by omega)))) ?_
  refine AO.op (O.pickAnd rfl rfl rfl rfl (fun h => by exact h)) rfl rfl rfl ?_
  refine AO.op (O.move rfl rfl) rfl rfl rfl ?_
  refine AO.opG rfl rfl rfl (fun hp => O.move rfl rfl) ?_
  refine AO.opG rfl rfl rfl (fun hp => OpW.force 23 rfl (by exact hp) (O.nilCheck rfl rfl)) ?_
  refine AO.opG rfl rfl rfl (fun hp => OpW.force 24 rfl (by exact hp) (O.fieldAddr rfl rfl)) ?_
  refine AO.opG rfl rfl rfl (fun hp => OpW.force 25 rfl (by exact hp) (O.load rfl rfl (by repeat (exact List.Mem.head _)) (by rfl))) ?_
  refine AO.opG rfl rfl rfl (fun hp => O.move rfl rfl) ?_
  refine AO.opG rfl rfl rfl (fun hp => OpW.force 26 rfl (by exact hp) (OpW.force 27 rfl (by exact hp) (O.indexS rfl rfl rfl ⟨by omega, by assumption⟩))) ?_
  refine AO.opG rfl rfl rfl (fun hp => OpW.force 28 rfl (by exact hp) (O.leq rfl rfl rfl (by exact bTrue (by omega)))) ?_
  refine AO.op (O.pickAnd rfl rfl rfl rfl (fun h => by exact h)) rfl rfl rfl ?_
  refine AO.nil ?_
  refine AQ.thenN ?_
  refine AW.condT rfl ?_
  refine AW.skip ?_
  refine AQ.thenN ?_
  refine AW.block ?_
  refine AW.region ?_
  refine AO.op (O.move rfl rfl) rfl rfl rfl ?_
  refine AO.op (O.add rfl rfl rfl (by exact wI64 (by omega))) rfl rfl rfl ?_
  refine AO.op (O.assign rfl rfl) rfl rfl rfl ?_
  refine AO.nil ?_
  refine AQ.blockN ?_
  refine AQ.loopKN _ _ _ (by omega) (⟨1, by omega, rfl, rfl, rfl⟩) (by repeat (first | exact envNil | refine envCons rfl ?_)) (by repeat (first | exact envNil | refine envCons rfl ?_)) (by repeat (first | exact subPnil | refine subPcons 0 rfl ?_))
 ·skip
  refine AW.seq ?_
  refine AW.seq ?_
  refine AW.region ?_
  refine AO.op (O.move rfl rfl) rfl rfl rfl ?_
  refine AO.op (O.move rfl rfl) rfl rfl rfl ?_
  refine AO.op (O.nilCheck rfl rfl) rfl rfl rfl ?_
  refine AO.op (O.fieldAddr rfl rfl) rfl rfl rfl ?_
  refine AO.op (O.load rfl rfl (by repeat (exact List.Mem.head _)) (by rfl)) rfl rfl rfl ?_
  refine AO.op (O.lenS rfl rfl) rfl rfl rfl ?_
  refine AO.op (O.lss rfl rfl rfl (by exact bTrue (by omega))) rfl rfl rfl ?_
  refine AO.op (O.move rfl rfl) rfl rfl rfl ?_
  refine AO.opG rfl rfl rfl (fun hp => O.move rfl rfl) ?_
  refine AO.opG rfl rfl rfl (fun hp => OpW.force 14 rfl (by exact hp) (O.nilCheck rfl rfl)) ?_
  refine AO.opG rfl rfl rfl (fun hp => OpW.force 15 rfl (by exact hp) (O.fieldAddr rfl rfl)) ?_
  refine AO.opG rfl rfl rfl (fun hp => OpW.force 16 rfl (by exact hp) (O.load rfl rfl (by repeat (exact List.Mem.head _)) (by rfl))) ?_
  refine AO.opG rfl rfl rfl (fun hp => O.move rfl rfl) ?_
  refine AO.opG rfl rfl rfl (fun hp => OpW.force 17 rfl (by exact hp) (OpW.force 18 rfl (by exact hp) (O.indexS rfl rfl rfl ⟨by omega, by assumption⟩))) ?_
  refine AO.opG rfl rfl rfl (fun hp => OpW.force 19 rfl (by exact hp) (O.geq rfl rfl rfl (by exact bTrue (by omega)))) ?_
  refine AO.op (O.pickAnd rfl rfl rfl rfl (fun h => by exact h)) rfl rfl rfl ?_
  refine AO.op (O.move rfl rfl) rfl rfl rfl ?_
  refine AO.opG rfl rfl rfl (fun hp => O.move rfl rfl) ?_
  refine AO.opG rfl rfl rfl (fun hp => OpW.force 23 rfl (by exact hp) (O.nilCheck rfl rfl)) ?_
  refine AO.opG rfl rfl rfl (fun hp => OpW.force 24 rfl (by exact hp) (O.fieldAddr rfl rfl)) ?_
  refine AO.opG rfl rfl rfl (fun hp => OpW.force 25 rfl (by exact hp) (O.load rfl rfl (by repeat (exact List.Mem.head _)) (by rfl))) ?_
  refine AO.opG rfl rfl rfl (fun hp => O.move rfl rfl) ?_
  refine AO.opG rfl rfl rfl (fun hp => OpW.force 26 rfl (by exact hp) (OpW.force 27 rfl (by exact hp) (O.indexS rfl rfl rfl ⟨by omega, by assumption⟩))) ?_
  refine AO.opG rfl rfl rfl (fun hp => OpW.force 28 rfl (by exact hp) (O.leq rfl rfl rfl (by exact bFalse (by omega)))) ?_
  refine AO.op (O.pickAnd rfl rfl rfl rfl (fun h => by exact h)) rfl rfl rfl ?_
  refine AO.nil ?_
  refine AQ.thenN ?_
  refine AW.condF rfl ?_
  refine AW.exit ?_
  refine AQ.thenX ?_
  refine AQ.loopX ?_
  refine AQ.blockX rfl ?_
  refine AQ.thenN ?_
  refine AW.seq ?_
  refine AW.region ?_
  refine AO.op (O.move rfl rfl) rfl rfl rfl ?_
  refine AO.op (O.nilCheck rfl rfl) rfl rfl rfl ?_
  refine AO.op (O.fieldAddr rfl rfl) rfl rfl rfl ?_
  refine AO.op (O.load rfl rfl (by repeat (exact List.Mem.head _)) (by rfl)) rfl rfl rfl ?_
  refine AO.op (O.move rfl rfl) rfl rfl rfl ?_
  refine AO.op (O.sliceS rfl rfl (by exact rfl) (by exact ⟨_, _, rfl, by rfl⟩) (by omega) (by omega) (by assumption)) rfl rfl rfl ?_
  refine AO.op (O.call rfl Tryz.func106 rfl rfl rfl (pparse1_fn)) rfl rfl rfl ?_
  refine AO.op (O.move rfl rfl) rfl rfl rfl ?_
  refine AO.op (O.extract rfl rfl rfl) rfl rfl rfl ?_
  refine AO.op (O.extract rfl rfl rfl) rfl rfl rfl ?_
  refine AO.op (O.assign rfl rfl) rfl rfl rfl ?_
  refine AO.op (O.assign rfl rfl) rfl rfl rfl ?_
  refine AO.nil ?_
  refine AQ.thenN ?_
  refine AW.seq ?_
  refine AW.region ?_
  refine AO.op (O.move rfl rfl) rfl rfl rfl ?_
  refine AO.op (O.move rfl rfl) rfl rfl rfl ?_
  refine AO.op (O.nilCheck rfl rfl) rfl rfl rfl ?_
  refine AO.op (O.fieldAddr rfl rfl) rfl rfl rfl ?_
  refine AO.op (O.load rfl rfl (by repeat (exact List.Mem.head _)) (by rfl)) rfl rfl rfl ?_
  refine AO.op (O.move rfl rfl) rfl rfl rfl ?_
  refine AO.opG rfl rfl rfl (fun hp => O.move rfl rfl) ?_
  refine AO.opG rfl rfl rfl (fun hp => OpW.force 49 rfl (by exact hp) (O.neqNilI ⟨_, Tryz.underlying175⟩ rfl rfl)) ?_
  refine AO.op (O.pickOr rfl rfl rfl rfl (fun h => by exact congrArg (fun b => !b) h)) rfl rfl rfl ?_
  refine AO.op (O.move rfl rfl) rfl rfl rfl ?_
  refine AO.opG rfl rfl rfl (fun hp => O.move rfl rfl) ?_
  refine AO.opG rfl rfl rfl (fun hp => OpW.force 53 rfl (by exact hp) (O.gtr rfl rfl rfl (by exact bFalse (by omega)))) ?_
  refine AO.opG rfl rfl rfl (fun hp => OpW.force 54 rfl (by exact hp) (O.move rfl rfl)) ?_
  refine AO.opG rfl rfl rfl (fun hp => O.move rfl rfl) ?_
  refine AO.opG rfl rfl rfl (fun hp => OpW.force 56 rfl (by exact hp) (O.nilCheck rfl rfl)) ?_
  refine AO.opG rfl rfl rfl (fun hp => OpW.force 57 rfl (by exact hp) (O.fieldAddr rfl rfl)) ?_
  refine AO.opG rfl rfl rfl (fun hp => OpW.force 58 rfl (by exact hp) (O.load rfl rfl (by repeat (exact List.Mem.head _)) (by rfl))) ?_
  refine AO.opG rfl rfl rfl (fun hp => OpW.force 59 rfl (by exact hp) (O.indexS rfl rfl rfl ⟨by omega, by assumption⟩)) ?_
  refine AO.opG rfl rfl rfl (fun hp => OpW.force 60 rfl (by exact hp) (O.eql rfl rfl rfl (by exact beq_eq_false_iff_ne.2 (by omega)))) ?_
  refine AO.opG rfl rfl rfl (fun hp => OpW.force 55 rfl (by exact hp) (O.pickAnd rfl rfl rfl rfl (fun h => by exact h))) ?_
  refine AO.op (O.pickOr rfl rfl rfl rfl (fun h => by exact congrArg (fun b => !b) h)) rfl rfl rfl ?_
  refine AO.op (O.nilCheck rfl rfl) rfl rfl rfl ?_
  refine AO.op (O.fieldAddr rfl rfl) rfl rfl rfl ?_
  (refine AO.store (i := 0) rfl rfl rfl rfl rfl rfl (by rfl) (by rfl) (by rfl) (by (dsimp only [List.set, List.cons_append, List.nil_append, List.take, List.drop]; done)) (by (dsimp only [List.set, List.cons_append, List.nil_append, List.take, List.drop]; done)) ?_)
  refine AO.nil ?_
  refine AQ.thenN ?_
  refine AW.seq ?_
  refine AW.region ?_
  refine AO.op (O.move rfl rfl) rfl rfl rfl ?_
  refine AO.op (O.move rfl rfl) rfl rfl rfl ?_
  refine AO.op (O.nilCheck rfl rfl) rfl rfl rfl ?_
  refine AO.op (O.fieldAddr rfl rfl) rfl rfl rfl ?_
  refine AO.op (O.load rfl rfl (by repeat (exact List.Mem.head _)) (by rfl)) rfl rfl rfl ?_
  refine AO.op (O.move rfl rfl) rfl rfl rfl ?_
  refine AO.op (O.sliceS rfl rfl (by exact ⟨_, _, rfl, by rfl⟩) (by exact rfl) (by omega) (by omega) (by assumption)) rfl rfl rfl ?_
  refine AO.op (O.nilCheck rfl rfl) rfl rfl rfl ?_
  refine AO.op (O.fieldAddr rfl rfl) rfl rfl rfl ?_
  (refine AO.store (i := 0) rfl rfl rfl rfl rfl rfl (by rfl) (by rfl) (by rfl) (by (dsimp only [List.set, List.cons_append, List.nil_append, List.take, List.drop]; done)) (by (dsimp only [List.set, List.cons_append, List.nil_append, List.take, List.drop]; done)) ?_)
  refine AO.nil ?_
  refine AQ.thenN ?_
  refine AW.seq ?_
  refine AW.region ?_
  refine AO.op (O.move rfl rfl) rfl rfl rfl ?_
  refine AO.op (O.assign rfl rfl) rfl rfl rfl ?_
  refine AO.nil ?_
  refine AQ.thenN ?_
  refine AW.ret ?_
  refine AQ.ret1 rfl rfl ⟨_, by repeat (first | exact List.Sublist.slnil | refine List.Sublist.cons_cons _ ?_), List.Perm.refl _⟩ (⟨rfl, rfl⟩)
 skip
abbrev namesV : List Value := [.string ⟨#[102, 97, 108, 115, 101]⟩, .string ⟨#[116, 114, 117, 101]⟩, .string ⟨#[110, 117, 108, 108]⟩, .string ⟨#[117, 110, 100, 101, 102, 105, 110, 101, 100]⟩]
abbrev GN (W : World) : Prop := GK 0 namesV W
abbrev uintA (k n : Int) : List AV := [.val (.int .i64 k), .val (.int .u64 n), .val (.slice none 0 0), .val (.slice none 0 0)]
abbrev arrA (n : Nat) (xs : List AV) : List AV := [.val (.int .i64 4), .val (.int .u64 0), .val (.slice none 0 0), .ro false n xs]
theorem item1_fn (B : Nat) (hB : B ≠ 0) : SpK GN Tryz.prog 80 [ptr B, .val (.int .i64 1)] [parsB B ⟨#[49, 93]⟩ 1 false] (IsM (.agg (uintA 0 1)) (parsB B ⟨#[93]⟩ 2 false)) := by
 have p1 : PreN ⟨#[49, 93]⟩ ⟨#[104, 39]⟩ := by decide +kernel
 have p2 : PreN ⟨#[49, 93]⟩ ⟨#[34]⟩ := by decide +kernel
 have p3 : PreN ⟨#[49, 93]⟩ ⟨#[91]⟩ := by decide +kernel
 have p4 : PreN ⟨#[49, 93]⟩ ⟨#[123]⟩ := by decide +kernel
 have p5 : PreN ⟨#[49, 93]⟩ ⟨#[115, 105, 109, 112, 108, 101, 40]⟩ := by decide +kernel
 have p6 : PreN ⟨#[49, 93]⟩ ⟨#[102, 108, 111, 97, 116, 39]⟩ := by decide +kernel
 have p7 : PreN ⟨#[49, 93]⟩ ⟨#[45]⟩ := by decide +kernel
 have p8 : PreN ⟨#[49, 93]⟩ ⟨#[102, 97, 108, 115, 101]⟩ := by decide +kernel
 have p9 : PreN ⟨#[49, 93]⟩ ⟨#[116, 114, 117, 101]⟩ := by decide +kernel
 have pa : PreN ⟨#[49, 93]⟩ ⟨#[110, 117, 108, 108]⟩ := by decide +kernel
 have pb : PreN ⟨#[49, 93]⟩ ⟨#[117, 110, 100, 101, 102, 105, 110, 101, 100]⟩ := by decide +kernel
 have pc : PreN ⟨#[93]⟩ ⟨#[40]⟩ := by decide +kernel
 refine SpK.enter Tryz.func80 rfl _ Tryz.ntmps80 rfl (fun w0 R0 hK => ?_)
 refine AW.seq ?_
 refine AW.region ?_
 refine AO.opB (O.alloc rfl (by (dsimp only [zerosA, List.replicate, List.append, List.flatten, AV.cells, Value.cells, List.toList_toArray, List.map]; done)) (by rfl)) rfl rfl rfl ?_
 intro B1
 refine AO.nil ?_
 refine AQ.thenN ?_
 refine AW.seq ?_
 refine AW.region ?_
 refine AO.op (O.move rfl rfl) rfl rfl rfl ?_
 refine AO.op (O.nilCheck rfl rfl) rfl rfl rfl ?_
 refine AO.op (O.fieldAddr rfl rfl) rfl rfl rfl ?_
 refine AO.op (O.load rfl rfl (by repeat (first | exact List.Mem.head _ | refine List.Mem.tail _ ?_)) (by rfl)) rfl rfl rfl ?_
 refine AO.op (O.add rfl rfl rfl (by exact wI64 (by omega))) rfl rfl rfl ?_
 refine AO.op (O.nilCheck rfl rfl) rfl rfl rfl ?_
 refine AO.op (O.fieldAddr rfl rfl) rfl rfl rfl ?_
 (refine AO.store (i := 1) rfl rfl rfl rfl rfl rfl (by rfl) (by rfl) (by rfl) (by (dsimp only [List.set, List.cons_append, List.nil_append, List.take, List.drop]; done)) (by (dsimp only [List.set, List.cons_append, List.nil_append, List.take, List.drop]; done)) ?_)
 refine AO.nil ?_
 refine AQ.thenN ?_
 refine AW.seq ?_
 refine AW.seq ?_
 refine AW.region ?_
 refine AO.op (O.move rfl rfl) rfl rfl rfl ?_
 refine AO.op (O.nilCheck rfl rfl) rfl rfl rfl ?_
 refine AO.op (O.fieldAddr rfl rfl) rfl rfl rfl ?_
 refine AO.op (O.load rfl rfl (by repeat (first | exact List.Mem.head _ | refine List.Mem.tail _ ?_)) (by rfl)) rfl rfl rfl ?_
 refine AO.op (O.move rfl rfl) rfl rfl rfl ?_
 refine AO.opG rfl rfl rfl (fun hp => O.move rfl rfl) ?_
 refine AO.opG rfl rfl rfl (fun hp => OpW.force 26 rfl (by exact hp) (O.nilCheck rfl rfl)) ?_
 refine AO.opG rfl rfl rfl (fun hp => OpW.force 27 rfl (by exact hp) (O.fieldAddr rfl rfl)) ?_
 refine AO.opG rfl rfl rfl (fun hp => OpW.force 28 rfl (by exact hp) (O.load rfl rfl (by repeat (first | exact List.Mem.head _ | refine List.Mem.tail _ ?_)) (by rfl))) ?_
 refine AO.opG rfl rfl rfl (fun hp => OpW.force 29 rfl (by exact hp) (O.gtr rfl rfl rfl (by exact bFalse (by omega)))) ?_
 refine AO.op (O.pickOr rfl rfl rfl rfl (fun h => by exact congrArg (fun b => !b) h)) rfl rfl rfl ?_
 refine AO.op (O.move rfl rfl) rfl rfl rfl ?_
 refine AO.opG rfl rfl rfl (fun hp => O.move rfl rfl) ?_
 refine AO.opG rfl rfl rfl (fun hp => OpW.force 33 rfl (by exact hp) (O.gtr rfl rfl rfl (by exact bFalse (by omega)))) ?_
 refine AO.op (O.pickOr rfl rfl rfl rfl (fun h => by exact congrArg (fun b => !b) h)) rfl rfl rfl ?_
 refine AO.nil ?_
 refine AQ.thenN ?_
 refine AW.condF rfl ?_
 refine AW.skip ?_
 refine AQ.thenN ?_
 refine AW.seq ?_
 refine AW.block ?_
 refine AW.seq ?_
 refine AW.region ?_
 refine AO.op (O.move rfl rfl) rfl rfl rfl ?_
 (refine AO.callM1 (i := 1) rfl rfl Tryz.func99 rfl rfl rfl rfl rfl rfl (skip_no ‹_›) (by (dsimp only [List.set, List.cons_append, List.nil_append, List.take, List.drop]; done)) ?_)
 refine AO.op (O.assign rfl rfl) rfl rfl rfl ?_
 refine AO.nil ?_
 refine AQ.thenN ?_
 refine AW.condF rfl ?_
 refine AW.seq ?_
 refine AW.region ?_
 refine AO.op (O.move rfl rfl) rfl rfl rfl ?_
 (refine AO.callM1 (i := 1) rfl rfl Tryz.func99 rfl rfl rfl rfl rfl rfl (skip_no ‹_›) (by (dsimp only [List.set, List.cons_append, List.nil_append, List.take, List.drop]; done)) ?_)
 refine AO.op (O.assign rfl rfl) rfl rfl rfl ?_
 refine AO.nil ?_
 refine AQ.thenN ?_
 refine AW.condF rfl ?_
 refine AW.seq ?_
 refine AW.region ?_
 refine AO.op (O.move rfl rfl) rfl rfl rfl ?_
 (refine AO.callM1 (i := 1) rfl rfl Tryz.func99 rfl rfl rfl rfl rfl rfl (skip_no ‹_›) (by (dsimp only [List.set, List.cons_append, List.nil_append, List.take, List.drop]; done)) ?_)
 refine AO.op (O.assign rfl rfl) rfl rfl rfl ?_
 refine AO.nil ?_
 refine AQ.thenN ?_
 refine AW.condF rfl ?_
 refine AW.seq ?_
 refine AW.region ?_
 refine AO.op (O.move rfl rfl) rfl rfl rfl ?_
 (refine AO.callM1 (i := 1) rfl rfl Tryz.func99 rfl rfl rfl rfl rfl rfl (skip_no ‹_›) (by (dsimp only [List.set, List.cons_append, List.nil_append, List.take, List.drop]; done)) ?_)
 refine AO.op (O.assign rfl rfl) rfl rfl rfl ?_
 refine AO.nil ?_
 refine AQ.thenN ?_
 refine AW.condF rfl ?_
 refine AW.seq ?_
 refine AW.region ?_
 refine AO.op (O.move rfl rfl) rfl rfl rfl ?_
 (refine AO.callM1 (i := 1) rfl rfl Tryz.func99 rfl rfl rfl rfl rfl rfl (skip_no ‹_›) (by (dsimp only [List.set, List.cons_append, List.nil_append, List.take, List.drop]; done)) ?_)
 refine AO.op (O.assign rfl rfl) rfl rfl rfl ?_
 refine AO.nil ?_
 refine AQ.thenN ?_
 refine AW.condF rfl ?_
 refine AW.seq ?_
 refine AW.region ?_
 refine AO.op (O.move rfl rfl) rfl rfl rfl ?_
 (refine AO.callM1 (i := 1) rfl rfl Tryz.func99 rfl rfl rfl rfl rfl rfl (skip_no ‹_›) (by (dsimp only [List.set, List.cons_append, List.nil_append, List.take, List.drop]; done)) ?_)
 refine AO.op (O.assign rfl rfl) rfl rfl rfl ?_
 refine AO.nil ?_
 refine AQ.thenN ?_
 refine AW.condF rfl ?_
 refine AW.seq ?_
 refine AW.region ?_
 refine AO.op (O.move rfl rfl) rfl rfl rfl ?_
 (refine AO.callM1 (i := 1) rfl rfl Tryz.func99 rfl rfl rfl rfl rfl rfl (skip_no ‹_›) (by (dsimp only [List.set, List.cons_append, List.nil_append, List.take, List.drop]; done)) ?_)
 refine AO.op (O.assign rfl rfl) rfl rfl rfl ?_
 refine AO.nil ?_
 refine AQ.thenN ?_
 refine AW.condF rfl ?_
 refine AW.skip ?_
 refine AQ.blockN ?_
 refine AQ.thenN ?_
 refine AW.seq ?_
 refine AW.seq ?_
 refine AW.region ?_
 refine AO.loadG hK (notFoot_blk hB) rfl rfl rfl rfl rfl ?_
 refine AO.op (O.move rfl rfl) rfl rfl rfl ?_
 refine AO.nil ?_
 refine AQ.thenN ?_
 refine AW.block ?_
 refine AW.loopK [(0, _), (1, _), (4, _), (127, _)] (fun nn E H => ∃ (k : Nat), (k ≤ 4) ∧ nn = 4 - k ∧ E = [(128, .val (.int .i64 (k : Int)))] ∧ H = [.blk B1 100 4 [.val (.int .i64 0), .val (.int .u64 0), .val (.slice none 0 0), .val (.slice none 0 0)], parsB B ⟨#[49, 93]⟩ 2 false]) _ (⟨0, by omega, rfl, rfl, rfl⟩) (by repeat (first | exact envNil | refine envCons rfl ?_)) (by repeat (first | exact envNil | refine envCons rfl ?_)) (by repeat (first | exact subPnil | refine subPcons 0 rfl ?_)) ?_
 rintro nn E H ⟨k, hk, rfl, rfl, rfl⟩
 dsimp only [List.cons_append, List.nil_append]
 obtain rfl | rfl | rfl | rfl | rfl : k = 0 ∨ k = 1 ∨ k = 2 ∨ k = 3 ∨ k = 4 := by omega
 ·skip
  refine AW.seq ?_
  refine AW.region ?_
  refine AO.op (O.lss rfl rfl rfl (by exact bTrue (by omega))) rfl rfl rfl ?_
  refine AO.nil ?_
  refine AQ.thenN ?_
  refine AW.seq ?_
  refine AW.condT rfl ?_
  refine AW.skip ?_
  refine AQ.thenN ?_
  refine AW.seq ?_
  refine AW.block ?_
  refine AW.seq ?_
  refine AW.region ?_
  refine AO.op (O.move rfl rfl) rfl rfl rfl ?_
  refine AO.op (O.index1 rfl rfl rfl ⟨(by omega), (by omega)⟩ (by rfl)) rfl rfl rfl ?_
  refine AO.op (O.assign rfl rfl) rfl rfl rfl ?_
  refine AO.op (O.assign rfl rfl) rfl rfl rfl ?_
  refine AO.nil ?_
  refine AQ.thenN ?_
  refine AW.seq ?_
  refine AW.region ?_
  refine AO.op (O.move rfl rfl) rfl rfl rfl ?_
  refine AO.op (O.move rfl rfl) rfl rfl rfl ?_
  (refine AO.callM1 (i := 1) rfl rfl Tryz.func99 rfl rfl rfl rfl rfl rfl (skip_no ‹_›) (by (dsimp only [List.set, List.cons_append, List.nil_append, List.take, List.drop]; done)) ?_)
  refine AO.nil ?_
  refine AQ.thenN ?_
  refine AW.condF rfl ?_
  refine AW.skip ?_
  refine AQ.blockN ?_
  refine AQ.thenN ?_
  refine AW.region ?_
  refine AO.op (O.add rfl rfl rfl (by exact wI64 (by omega))) rfl rfl rfl ?_
  refine AO.op (O.move rfl rfl) rfl rfl rfl ?_
  refine AO.nil ?_
  refine AQ.loopKN _ _ _ (by omega) (⟨1, by omega, rfl, rfl, rfl⟩) (by repeat (first | exact envNil | refine envCons rfl ?_)) (by repeat (first | exact envNil | refine envCons rfl ?_)) (by repeat (first | exact subPnil | refine subPcons 0 rfl ?_))
 ·skip
  refine AW.seq ?_
  refine AW.region ?_
  refine AO.op (O.lss rfl rfl rfl (by exact bTrue (by omega))) rfl rfl rfl ?_
  refine AO.nil ?_
  refine AQ.thenN ?_
  refine AW.seq ?_
  refine AW.condT rfl ?_
  refine AW.skip ?_
  refine AQ.thenN ?_
  refine AW.seq ?_
  refine AW.block ?_
  refine AW.seq ?_
  refine AW.region ?_
  refine AO.op (O.move rfl rfl) rfl rfl rfl ?_
  refine AO.op (O.index1 rfl rfl rfl ⟨(by omega), (by omega)⟩ (by rfl)) rfl rfl rfl ?_
  refine AO.op (O.assign rfl rfl) rfl rfl rfl ?_
  refine AO.op (O.assign rfl rfl) rfl rfl rfl ?_
  refine AO.nil ?_
  refine AQ.thenN ?_
  refine AW.seq ?_
  refine AW.region ?_
  refine AO.op (O.move rfl rfl) rfl rfl rfl ?_
  refine AO.op (O.move rfl rfl) rfl rfl rfl ?_
  (refine AO.callM1 (i := 1) rfl rfl Tryz.func99 rfl rfl rfl rfl rfl rfl (skip_no ‹_›) (by (dsimp only [List.set, List.cons_append, List.nil_append, List.take, List.drop]; done)) ?_)
  refine AO.nil ?_
  refine AQ.thenN ?_
  refine AW.condF rfl ?_
  refine AW.skip ?_
  refine AQ.blockN ?_
  refine AQ.thenN ?_
  refine AW.region ?_
  refine AO.op (O.add rfl rfl rfl (by exact wI64 (by omega))) rfl rfl rfl ?_
  refine AO.op (O.move rfl rfl) rfl rfl rfl ?_
  refine AO.nil ?_
  refine AQ.loopKN _ _ _ (by omega) (⟨2, by omega, rfl, rfl, rfl⟩) (by repeat (first | exact envNil | refine envCons rfl ?_)) (by repeat (first | exact envNil | refine envCons rfl ?_)) (by repeat (first | exact subPnil | refine subPcons 0 rfl ?_))
 ·skip
  refine AW.seq ?_
  refine AW.region ?_
  refine AO.op (O.lss rfl rfl rfl (by exact bTrue (by omega))) rfl rfl rfl ?_
  refine AO.nil ?_
  refine AQ.thenN ?_
  refine AW.seq ?_
  refine AW.condT rfl ?_
  refine AW.skip ?_
  refine AQ.thenN ?_
  refine AW.seq ?_
  refine AW.block ?_
  refine AW.seq ?_
  refine AW.region ?_
  refine AO.op (O.move rfl rfl) rfl rfl rfl ?_
  refine AO.op (O.index1 rfl rfl rfl ⟨(by omega), (by omega)⟩ (by rfl)) rfl rfl rfl ?_
  refine AO.op (O.assign rfl rfl) rfl rfl rfl ?_
  refine AO.op (O.assign rfl rfl) rfl rfl rfl ?_
  refine AO.nil ?_
  refine AQ.thenN ?_
  refine AW.seq ?_
  refine AW.region ?_
  refine AO.op (O.move rfl rfl) rfl rfl rfl ?_
  refine AO.op (O.move rfl rfl) rfl rfl rfl ?_
  (refine AO.callM1 (i := 1) rfl rfl Tryz.func99 rfl rfl rfl rfl rfl rfl (skip_no ‹_›) (by (dsimp only [List.set, List.cons_append, List.nil_append, List.take, List.drop]; done)) ?_)
  refine AO.nil ?_
  refine AQ.thenN ?_
  refine AW.condF rfl ?_
  refine AW.skip ?_
  refine AQ.blockN ?_
  refine AQ.thenN ?_
  refine AW.region ?_
  refine AO.op (O.add rfl rfl rfl (by exact wI64 (by omega))) rfl rfl rfl ?_
  refine AO.op (O.move rfl rfl) rfl rfl rfl ?_
  refine AO.nil ?_
  refine AQ.loopKN _ _ _ (by omega) (⟨3, by omega, rfl, rfl, rfl⟩) (by repeat (first | exact envNil | refine envCons rfl ?_)) (by repeat (first | exact envNil | refine envCons rfl ?_)) (by repeat (first | exact subPnil | refine subPcons 0 rfl ?_))
 ·skip
  refine AW.seq ?_
  refine AW.region ?_
  refine AO.op (O.lss rfl rfl rfl (by exact bTrue (by omega))) rfl rfl rfl ?_
  refine AO.nil ?_
  refine AQ.thenN ?_
  refine AW.seq ?_
  refine AW.condT rfl ?_
  refine AW.skip ?_
  refine AQ.thenN ?_
  refine AW.seq ?_
  refine AW.block ?_
  refine AW.seq ?_
  refine AW.region ?_
  refine AO.op (O.move rfl rfl) rfl rfl rfl ?_
  refine AO.op (O.index1 rfl rfl rfl ⟨(by omega), (by omega)⟩ (by rfl)) rfl rfl rfl ?_
  refine AO.op (O.assign rfl rfl) rfl rfl rfl ?_
  refine AO.op (O.assign rfl rfl) rfl rfl rfl ?_
  refine AO.nil ?_
  refine AQ.thenN ?_
  refine AW.seq ?_
  refine AW.region ?_
  refine AO.op (O.move rfl rfl) rfl rfl rfl ?_
  refine AO.op (O.move rfl rfl) rfl rfl rfl ?_
  (refine AO.callM1 (i := 1) rfl rfl Tryz.func99 rfl rfl rfl rfl rfl rfl (skip_no ‹_›) (by (dsimp only [List.set, List.cons_append, List.nil_append, List.take, List.drop]; done)) ?_)
  refine AO.nil ?_
  refine AQ.thenN ?_
  refine AW.condF rfl ?_
  refine AW.skip ?_
  refine AQ.blockN ?_
  refine AQ.thenN ?_
  refine AW.region ?_
  refine AO.op (O.add rfl rfl rfl (by exact wI64 (by omega))) rfl rfl rfl ?_
  refine AO.op (O.move rfl rfl) rfl rfl rfl ?_
  refine AO.nil ?_
  refine AQ.loopKN _ _ _ (by omega) (⟨4, by omega, rfl, rfl, rfl⟩) (by repeat (first | exact envNil | refine envCons rfl ?_)) (by repeat (first | exact envNil | refine envCons rfl ?_)) (by repeat (first | exact subPnil | refine subPcons 0 rfl ?_))
 ·skip
  refine AW.seq ?_
  refine AW.region ?_
  refine AO.op (O.lss rfl rfl rfl (by exact bFalse (by omega))) rfl rfl rfl ?_
  refine AO.nil ?_
  refine AQ.thenN ?_
  refine AW.seq ?_
  refine AW.condF rfl ?_
  refine AW.exit ?_
  refine AQ.thenX ?_
  refine AQ.loopX ?_
  refine AQ.blockX rfl ?_
  refine AQ.thenN ?_
  refine AW.seq ?_
  refine AW.region ?_
  refine AO.op (O.move rfl rfl) rfl rfl rfl ?_
  (refine AO.callM1 (i := 1) rfl rfl Tryz.func103 rfl rfl rfl rfl rfl rfl (number_fn B) (by (dsimp only [List.set, List.cons_append, List.nil_append, List.take, List.drop]; done)) ?_)
  refine AO.op (O.assign rfl rfl) rfl rfl rfl ?_
  refine AO.nil ?_
  refine AQ.thenN ?_
  refine AW.seq ?_
  refine AW.seq ?_
  refine AW.region ?_
  refine AO.op (O.move rfl rfl) rfl rfl rfl ?_
  (refine AO.callM1 (i := 1) rfl rfl Tryz.func99 rfl rfl rfl rfl rfl rfl (skip_no ‹_›) (by (dsimp only [List.set, List.cons_append, List.nil_append, List.take, List.drop]; done)) ?_)
  refine AO.op (O.not rfl rfl (by rfl)) rfl rfl rfl ?_
  refine AO.nil ?_
  refine AQ.thenN ?_
  refine AW.condT rfl ?_
  refine AW.seq ?_
  refine AW.region ?_
  refine AO.op (O.move rfl rfl) rfl rfl rfl ?_
  refine AO.op (O.build rfl rfl rfl (by rfl)) rfl rfl rfl ?_
  (refine AO.store (i := 0) rfl rfl rfl rfl rfl rfl (by rfl) (by rfl) (by rfl) (by (dsimp only [List.set, List.cons_append, List.nil_append, List.take, List.drop]; done)) (by (dsimp only [List.set, List.cons_append, List.nil_append, List.take, List.drop]; done)) ?_)
  refine AO.nil ?_
  refine AQ.thenN ?_
  refine AW.ret ?_
  refine AQ.thenR ?_
  refine AQ.retCell rfl rfl (by repeat (exact List.Mem.head _)) (by rfl) rfl ⟨_, by repeat (first | exact List.Sublist.slnil | refine List.Sublist.cons_cons _ ?_ | refine List.Sublist.cons _ ?_), List.Perm.refl _⟩ (⟨rfl, rfl⟩)
 skip
end Go.Proofs.YtoonnnifelnaiaaGreatDoor.By

namespace Go.Proofs.YtoonnnifelnaiaaGreatDoor.By
open Go.RowKit L A Dk
set_option linter.unusedVariables false
set_option maxRecDepth 20000
set_option linter.unusedSimpArgs false
attribute [local irreducible] AW AQ AO
theorem list1_fn (B : Nat) (hB : B ≠ 0) : SpK GN Tryz.prog 102 [ptr B, .val (.string ⟨#[93]⟩), .val (.bool false), .val (.int .i64 1)] [parsB B ⟨#[49, 93]⟩ 1 false] (IsM (.ro false 1 (uintA 0 1)) (parsB B ⟨#[]⟩ 2 false)) := by
 have p1 : PreN ⟨#[49, 93]⟩ ⟨#[93]⟩ := by decide +kernel
 have p2 : PreY ⟨#[93]⟩ ⟨#[93]⟩ ⟨#[]⟩ := by decide +kernel
 refine SpK.enter Tryz.func102 rfl _ Tryz.ntmps102 rfl (fun w0 R0 hK => ?_)
 refine AW.seq ?_
 refine AW.region ?_
 refine AO.op (O.assign rfl rfl) rfl rfl rfl ?_
 refine AO.nil ?_
 refine AQ.thenN ?_
 refine AW.seq ?_
 refine AW.region ?_
 refine AO.op (O.assign rfl rfl) rfl rfl rfl ?_
 refine AO.nil ?_
 refine AQ.thenN ?_
 refine AW.seq ?_
 refine AW.block ?_
 refine AW.g ?_
 refine G.nilRow 100 4 ?_
 refine AW.u ?_
 refine AW.loopK [(0, _), (1, _), (2, _), (3, _)] (fun nn E H => ∃ (V : Value) (s : ByteArray) (q : Int) (n : Nat) (xs : List AV), (V.oneCell' = true) ∧ ((s = ⟨#[49, 93]⟩ ∧ q = 1 ∧ n = 0 ∧ xs = []) ∨ (s = ⟨#[93]⟩ ∧ q = 2 ∧ n = 1 ∧ xs = uintA 0 1)) ∧ nn = 1 - n ∧ E = [(9, .val V)] ∧ H = [.row V 100 4 n xs, parsB B s q false]) _ (⟨_, _, _, _, _, rfl, .inl ⟨rfl, rfl, rfl, rfl⟩, rfl, rfl, rfl⟩) (by repeat (first | exact envNil | refine envCons rfl ?_)) (by repeat (first | exact envNil | refine envCons rfl ?_)) (by repeat (first | exact subPnil | refine subPcons 0 rfl ?_)) ?_
 rintro nn E H ⟨V, s, q, n, xs, hV, hc, rfl, rfl, rfl⟩
 dsimp only [List.cons_append, List.nil_append]
 obtain ⟨rfl, rfl, rfl, rfl⟩ | ⟨rfl, rfl, rfl, rfl⟩ := hc
 ·skip
  refine AW.seq ?_
  refine AW.seq ?_
  refine AW.region ?_
  refine AO.op (O.move rfl rfl) rfl rfl rfl ?_
  refine AO.op (O.nilCheck rfl rfl) rfl rfl rfl ?_
  refine AO.op (O.fieldAddr rfl rfl) rfl rfl rfl ?_
  refine AO.op (O.load rfl rfl (by repeat (first | exact List.Mem.head _ | refine List.Mem.tail _ ?_)) (by rfl)) rfl rfl rfl ?_
  refine AO.op (O.not rfl rfl (by rfl)) rfl rfl rfl ?_
  refine AO.op (O.move rfl rfl) rfl rfl rfl ?_
  refine AO.op (O.move rfl rfl) rfl rfl rfl ?_
  refine AO.op (O.move rfl rfl) rfl rfl rfl ?_
  (refine AO.callM1w (i := 1) rfl rfl Tryz.func99 rfl rfl rfl rfl rfl rfl (skip_no ‹_›) (by (dsimp only [List.set, List.cons_append, List.nil_append, List.take, List.drop]; done)) ?_)
  refine AO.op (O.not rfl rfl (by rfl)) rfl rfl rfl ?_
  refine AO.op (O.pickT rfl rfl rfl) rfl rfl rfl ?_
  refine AO.nil ?_
  refine AQ.thenN ?_
  refine AW.condT rfl ?_
  refine AW.skip ?_
  refine AQ.thenN ?_
  refine AW.block ?_
  refine AW.seq ?_
  refine AW.seq ?_
  refine AW.region ?_
  refine AO.op (O.move rfl rfl) rfl rfl rfl ?_
  refine AO.op (O.lenRow rfl rfl (by repeat (exact List.Mem.head _))) rfl rfl rfl ?_
  refine AO.op (O.gtr rfl rfl rfl (by exact bFalse (by omega))) rfl rfl rfl ?_
  refine AO.nil ?_
  refine AQ.thenN ?_
  refine AW.condF rfl ?_
  refine AW.skip ?_
  refine AQ.thenN ?_
  refine AW.seq ?_
  refine AW.region ?_
  refine AO.op (O.move rfl rfl) rfl rfl rfl ?_
  refine AO.op (O.move rfl rfl) rfl rfl rfl ?_
  refine AO.op (O.move rfl rfl) rfl rfl rfl ?_
  (refine AO.callK1 (i := 1) hK (notFoot_blk hB) rfl rfl Tryz.func80 rfl rfl rfl rfl rfl rfl (item1_fn B hB) (by (dsimp only [List.set, List.cons_append, List.nil_append, List.take, List.drop]; done)) ?_)
  refine AO.opB (O.buildSlice rfl rfl rfl (by rfl) (by rfl) (by rfl) (by rfl)) rfl rfl rfl ?_
  intro B1
  refine AO.g ?_
  (refine G.freezeSl 0 30 rfl rfl ⟨Nat.le_refl _, by unfold maxLen; omega⟩ ?_)
  refine G.unfull 30 rfl ?_
  refine AO.u ?_
  dsimp only [List.eraseIdx]
  (refine AO.append' (i := 0) rfl rfl rfl rfl (by rfl) (by rfl) rfl rfl rfl (by exact SrcA.ro TyD.ax (by rfl) (Nat.le_of_ble_eq_true rfl)) (by rfl) (by (unfold maxLen; omega)) (by omega) (by (dsimp only [List.set, List.cons_append, List.nil_append, List.take, List.drop]; done)) (fun _ => by (dsimp only [List.set]; done)) ?_)
  intro V2 hV2
  refine AO.op (O.assign rfl rfl) rfl rfl rfl ?_
  refine AO.nil ?_
  refine AQ.thenN ?_
  refine AW.seq ?_
  refine AW.region ?_
  refine AO.op (O.move rfl rfl) rfl rfl rfl ?_
  refine AO.nil ?_
  refine AQ.thenN ?_
  refine AW.condF rfl ?_
  refine AW.skip ?_
  refine AQ.blockN ?_
  refine AQ.loopKN _ _ _ (by omega) (⟨_, _, _, _, _, ‹_›, .inr ⟨rfl, rfl, rfl, rfl⟩, rfl, rfl, rfl⟩) (by repeat (first | exact envNil | refine envCons rfl ?_)) (by repeat (first | exact envNil | refine envCons rfl ?_)) (by repeat (first | exact subPnil | refine subPcons 0 rfl ?_))
 ·skip
  refine AW.seq ?_
  refine AW.seq ?_
  refine AW.region ?_
  refine AO.op (O.move rfl rfl) rfl rfl rfl ?_
  refine AO.op (O.nilCheck rfl rfl) rfl rfl rfl ?_
  refine AO.op (O.fieldAddr rfl rfl) rfl rfl rfl ?_
  refine AO.op (O.load rfl rfl (by repeat (first | exact List.Mem.head _ | refine List.Mem.tail _ ?_)) (by rfl)) rfl rfl rfl ?_
  refine AO.op (O.not rfl rfl (by rfl)) rfl rfl rfl ?_
  refine AO.op (O.move rfl rfl) rfl rfl rfl ?_
  refine AO.op (O.move rfl rfl) rfl rfl rfl ?_
  refine AO.op (O.move rfl rfl) rfl rfl rfl ?_
  (refine AO.callM1w (i := 1) rfl rfl Tryz.func99 rfl rfl rfl rfl rfl rfl (skip_yes ⟨#[]⟩ ‹_›) (by (dsimp only [List.set, List.cons_append, List.nil_append, List.take, List.drop]; done)) ?_)
  refine AO.op (O.not rfl rfl (by rfl)) rfl rfl rfl ?_
  refine AO.op (O.pickT rfl rfl rfl) rfl rfl rfl ?_
  refine AO.nil ?_
  refine AQ.thenN ?_
  refine AW.condF rfl ?_
  refine AW.g ?_
  refine G.freezeRow 0 rfl [9] (by repeat (first | exact frNil | refine frCons rfl ?_)) ?_
  refine AW.u ?_
  try dsimp only [List.map, List.eraseIdx, List.cons_append, List.nil_append]
  refine AW.exit ?_
  refine AQ.thenX ?_
  refine AQ.loopX ?_
  refine AQ.blockX rfl ?_
  refine AQ.thenN ?_
  refine AW.seq ?_
  refine AW.region ?_
  refine AO.op (O.move rfl rfl) rfl rfl rfl ?_
  refine AO.op (O.assign rfl rfl) rfl rfl rfl ?_
  refine AO.nil ?_
  refine AQ.thenN ?_
  refine AW.ret ?_
  refine AQ.ret1 rfl rfl ⟨_, by repeat (first | exact List.Sublist.slnil | refine List.Sublist.cons_cons _ ?_), List.Perm.refl _⟩ (⟨rfl, rfl⟩)
 skip
theorem item0_fn (B : Nat) (hB : B ≠ 0) : SpK GN Tryz.prog 80 [ptr B, .val (.int .i64 0)] [parsB B ⟨#[91, 49, 93]⟩ 0 false] (IsM (.agg (arrA 1 (uintA 0 1))) (parsB B ⟨#[]⟩ 2 false)) := by
 have p1 : PreN ⟨#[91, 49, 93]⟩ ⟨#[104, 39]⟩ := by decide +kernel
 have p2 : PreN ⟨#[91, 49, 93]⟩ ⟨#[34]⟩ := by decide +kernel
 have p3 : PreY ⟨#[91, 49, 93]⟩ ⟨#[91]⟩ ⟨#[49, 93]⟩ := by decide +kernel
 refine SpK.enter Tryz.func80 rfl _ Tryz.ntmps80 rfl (fun w0 R0 hK => ?_)
 refine AW.seq ?_
 refine AW.region ?_
 refine AO.opB (O.alloc rfl (by (dsimp only [zerosA, List.replicate, List.append, List.flatten, AV.cells, Value.cells, List.toList_toArray, List.map]; done)) (by rfl)) rfl rfl rfl ?_
 intro B1
 refine AO.nil ?_
 refine AQ.thenN ?_
 refine AW.seq ?_
 refine AW.region ?_
 refine AO.op (O.move rfl rfl) rfl rfl rfl ?_
 refine AO.op (O.nilCheck rfl rfl) rfl rfl rfl ?_
 refine AO.op (O.fieldAddr rfl rfl) rfl rfl rfl ?_
 refine AO.op (O.load rfl rfl (by repeat (first | exact List.Mem.head _ | refine List.Mem.tail _ ?_)) (by rfl)) rfl rfl rfl ?_
 refine AO.op (O.add rfl rfl rfl (by exact wI64 (by omega))) rfl rfl rfl ?_
 refine AO.op (O.nilCheck rfl rfl) rfl rfl rfl ?_
 refine AO.op (O.fieldAddr rfl rfl) rfl rfl rfl ?_
 (refine AO.store (i := 1) rfl rfl rfl rfl rfl rfl (by rfl) (by rfl) (by rfl) (by (dsimp only [List.set, List.cons_append, List.nil_append, List.take, List.drop]; done)) (by (dsimp only [List.set, List.cons_append, List.nil_append, List.take, List.drop]; done)) ?_)
 refine AO.nil ?_
 refine AQ.thenN ?_
 refine AW.seq ?_
 refine AW.seq ?_
 refine AW.region ?_
 refine AO.op (O.move rfl rfl) rfl rfl rfl ?_
 refine AO.op (O.nilCheck rfl rfl) rfl rfl rfl ?_
 refine AO.op (O.fieldAddr rfl rfl) rfl rfl rfl ?_
 refine AO.op (O.load rfl rfl (by repeat (first | exact List.Mem.head _ | refine List.Mem.tail _ ?_)) (by rfl)) rfl rfl rfl ?_
 refine AO.op (O.move rfl rfl) rfl rfl rfl ?_
 refine AO.op (O.move rfl rfl) rfl rfl rfl ?_
 refine AO.op (O.nilCheck rfl rfl) rfl rfl rfl ?_
 refine AO.op (O.fieldAddr rfl rfl) rfl rfl rfl ?_
 refine AO.op (O.load rfl rfl (by repeat (first | exact List.Mem.head _ | refine List.Mem.tail _ ?_)) (by rfl)) rfl rfl rfl ?_
 refine AO.op (O.gtr rfl rfl rfl (by exact bFalse (by omega))) rfl rfl rfl ?_
 refine AO.op (O.pickF rfl rfl rfl) rfl rfl rfl ?_
 refine AO.op (O.move rfl rfl) rfl rfl rfl ?_
 refine AO.op (O.move rfl rfl) rfl rfl rfl ?_
 refine AO.op (O.gtr rfl rfl rfl (by exact bFalse (by omega))) rfl rfl rfl ?_
 refine AO.op (O.pickF rfl rfl rfl) rfl rfl rfl ?_
 refine AO.nil ?_
 refine AQ.thenN ?_
 refine AW.condF rfl ?_
 refine AW.skip ?_
 refine AQ.thenN ?_
 refine AW.seq ?_
 refine AW.block ?_
 refine AW.seq ?_
 refine AW.region ?_
 refine AO.op (O.move rfl rfl) rfl rfl rfl ?_
 (refine AO.callM1 (i := 1) rfl rfl Tryz.func99 rfl rfl rfl rfl rfl rfl (skip_no ‹_›) (by (dsimp only [List.set, List.cons_append, List.nil_append, List.take, List.drop]; done)) ?_)
 refine AO.op (O.assign rfl rfl) rfl rfl rfl ?_
 refine AO.nil ?_
 refine AQ.thenN ?_
 refine AW.condF rfl ?_
 refine AW.seq ?_
 refine AW.region ?_
 refine AO.op (O.move rfl rfl) rfl rfl rfl ?_
 (refine AO.callM1 (i := 1) rfl rfl Tryz.func99 rfl rfl rfl rfl rfl rfl (skip_no ‹_›) (by (dsimp only [List.set, List.cons_append, List.nil_append, List.take, List.drop]; done)) ?_)
 refine AO.op (O.assign rfl rfl) rfl rfl rfl ?_
 refine AO.nil ?_
 refine AQ.thenN ?_
 refine AW.condF rfl ?_
 refine AW.seq ?_
 refine AW.region ?_
 refine AO.op (O.move rfl rfl) rfl rfl rfl ?_
 (refine AO.callM1 (i := 1) rfl rfl Tryz.func99 rfl rfl rfl rfl rfl rfl (skip_yes ⟨#[49, 93]⟩ ‹_›) (by (dsimp only [List.set, List.cons_append, List.nil_append, List.take, List.drop]; done)) ?_)
 refine AO.op (O.assign rfl rfl) rfl rfl rfl ?_
 refine AO.nil ?_
 refine AQ.thenN ?_
 refine AW.condT rfl ?_
 refine AW.seq ?_
 refine AW.region ?_
 refine AO.op (O.move rfl rfl) rfl rfl rfl ?_
 refine AO.op (O.move rfl rfl) rfl rfl rfl ?_
 refine AO.op (O.add rfl rfl rfl (by exact wI64 (by omega))) rfl rfl rfl ?_
 (refine AO.callK1 (i := 1) hK (notFoot_blk hB) rfl rfl Tryz.func102 rfl rfl rfl rfl rfl rfl (list1_fn B hB) (by (dsimp only [List.set, List.cons_append, List.nil_append, List.take, List.drop]; done)) ?_)
 refine AO.op (O.build rfl rfl rfl (by rfl)) rfl rfl rfl ?_
 (refine AO.store (i := 0) rfl rfl rfl rfl rfl rfl (by rfl) (by rfl) (by rfl) (by (dsimp only [List.set, List.cons_append, List.nil_append, List.take, List.drop]; done)) (by (dsimp only [List.set, List.cons_append, List.nil_append, List.take, List.drop]; done)) ?_)
 refine AO.nil ?_
 refine AQ.thenN ?_
 refine AW.ret ?_
 refine AQ.blockR ?_
 refine AQ.thenR ?_
 refine AQ.retCell rfl rfl (by repeat (exact List.Mem.head _)) (by rfl) rfl ⟨_, by repeat (first | exact List.Sublist.slnil | refine List.Sublist.cons_cons _ ?_ | refine List.Sublist.cons _ ?_), List.Perm.refl _⟩ (⟨rfl, rfl⟩)
/-! ### Texts written -/
abbrev itA (k n : Int) (b : List UInt8) (m : Nat) (xs : List AV) : AV := .agg [.val (.int .i64 k), .val (.int .u64 n), roB b, .ro false m xs]
theorem put1_fn (V : Value) (l : List UInt8) (hl : l.length ≤ 1000) : Sp Tryz.prog 78 [.val V, itA 0 1 [] 0 []] [.row V 5 1 l.length (bytesA l)] (RowB 5 (l ++ [49])) := by
 refine Sp.enter Tryz.func78 rfl _ Tryz.ntmps78 rfl (fun w0 R0 => ?_)
 refine AW.seq ?_
 refine AW.region ?_
 refine AO.opB (O.box rfl rfl rfl rfl rfl) rfl rfl rfl ?_
 intro B1
 refine AO.op (O.assign rfl rfl) rfl rfl rfl ?_
 refine AO.nil ?_
 refine AQ.thenN ?_
 refine AW.seq ?_
 refine AW.seq ?_
 refine AW.region ?_
 refine AO.op (O.fieldAddr rfl rfl) rfl rfl rfl ?_
 refine AO.op (O.load rfl rfl (by repeat (exact List.Mem.head _)) (by rfl)) rfl rfl rfl ?_
 refine AO.nil ?_
 refine AQ.thenN ?_
 refine AW.block ?_
 refine AW.seq ?_
 refine AW.region ?_
 refine AO.op (O.eql rfl rfl rfl (by exact beq_iff_eq.2 (by omega))) rfl rfl rfl ?_
 refine AO.op (O.assign rfl rfl) rfl rfl rfl ?_
 refine AO.nil ?_
 refine AQ.thenN ?_
 refine AW.condT rfl ?_
 refine AW.seq ?_
 refine AW.region ?_
 refine AO.op (O.move rfl rfl) rfl rfl rfl ?_
 refine AO.op (O.fieldAddr rfl rfl) rfl rfl rfl ?_
 refine AO.op (O.load rfl rfl (by repeat (exact List.Mem.head _)) (by rfl)) rfl rfl rfl ?_
 refine AO.callMG 1 rfl rfl Tryz.func96 rfl rfl rfl rfl rfl rfl (app_fn V l 1 hl ⟨by omega, by omega⟩) ?_
 rintro _ _ ⟨V2, hV2, rfl, rfl⟩
 dsimp only [List.cons_append, List.nil_append, List.eraseIdx]
 refine AO.op (O.assign rfl rfl) rfl rfl rfl ?_
 refine AO.nil ?_
 refine AQ.thenN ?_
 refine AW.ret ?_
 refine AQ.blockR ?_
 refine AQ.thenR ?_
 refine AQ.ret1 rfl rfl ⟨_, by repeat (first | exact List.Sublist.slnil | refine List.Sublist.cons_cons _ ?_ | refine List.Sublist.cons _ ?_), List.Perm.refl _⟩ (retRB hV2 rfl rfl)
theorem putN_fn : Sp Tryz.prog 78 [.val (.slice none 0 0), itA 1 2 [] 0 []] [] (Is (roB [45, 51])) := by
 refine Sp.enter Tryz.func78 rfl _ Tryz.ntmps78 rfl (fun w0 R0 => ?_)
 refine AW.seq ?_
 refine AW.region ?_
 refine AO.opB (O.box rfl rfl rfl rfl rfl) rfl rfl rfl ?_
 intro B1
 refine AO.op (O.assign rfl rfl) rfl rfl rfl ?_
 refine AO.nil ?_
 refine AQ.thenN ?_
 refine AW.seq ?_
 refine AW.seq ?_
 refine AW.region ?_
 refine AO.op (O.fieldAddr rfl rfl) rfl rfl rfl ?_
 refine AO.op (O.load rfl rfl (by repeat (exact List.Mem.head _)) (by rfl)) rfl rfl rfl ?_
 refine AO.nil ?_
 refine AQ.thenN ?_
 refine AW.block ?_
 refine AW.seq ?_
 refine AW.region ?_
 refine AO.op (O.eql rfl rfl rfl (by exact beq_eq_false_iff_ne.2 (by omega))) rfl rfl rfl ?_
 refine AO.op (O.assign rfl rfl) rfl rfl rfl ?_
 refine AO.nil ?_
 refine AQ.thenN ?_
 refine AW.condF rfl ?_
 refine AW.seq ?_
 refine AW.region ?_
 refine AO.op (O.eql rfl rfl rfl (by exact beq_iff_eq.2 (by omega))) rfl rfl rfl ?_
 refine AO.op (O.assign rfl rfl) rfl rfl rfl ?_
 refine AO.nil ?_
 refine AQ.thenN ?_
 refine AW.condT rfl ?_
 refine AW.seq ?_
 refine AW.seq ?_
 refine AW.region ?_
 refine AO.op (O.fieldAddr rfl rfl) rfl rfl rfl ?_
 refine AO.op (O.load rfl rfl (by repeat (exact List.Mem.head _)) (by rfl)) rfl rfl rfl ?_
 refine AO.op (O.eql rfl rfl rfl (by exact beq_eq_false_iff_ne.2 (by omega))) rfl rfl rfl ?_
 refine AO.nil ?_
 refine AQ.thenN ?_
 refine AW.condF rfl ?_
 refine AW.g ?_
 refine G.nilRow 5 1 ?_
 refine AW.u ?_
 refine AW.skip ?_
 refine AQ.thenN ?_
 refine AW.seq ?_
 refine AW.regionM [(0, false), (1, false), (3, false), (4, false), (5, false), (2, true), (6, true), (7, false)] (by kernel_rfl) (by kernel_rfl) (by exact (by exact splitRow 0 0 rfl rfl splitNil)) ?_
 dsimp only [List.eraseIdx]
 refine AM.op rfl (O.move rfl rfl) rfl rfl rfl ?_
 refine AM.op rfl (OpW.frz (O.buildSlice rfl rfl rfl (by rfl) (by rfl) (by rfl) (by rfl)) (by (unfold maxLen; omega))) rfl rfl rfl ?_
 refine AM.op rfl (O.fieldAddr rfl rfl) rfl rfl rfl ?_
 refine AM.op rfl (O.load rfl rfl (by repeat (exact List.Mem.head _)) (by rfl)) rfl rfl rfl ?_
 refine AM.op rfl (O.add rfl rfl rfl (by exact wU64 (by omega))) rfl rfl rfl ?_
 refine AM.main _ rfl (fun w0 R0 => ?_)
 (refine AO.append' (i := 0) rfl rfl rfl rfl (by rfl) (by rfl) rfl rfl rfl (by exact SrcA.ro TyD.ax (by rfl) (Nat.le_of_ble_eq_true rfl)) (by rfl) (by (unfold maxLen; omega)) (by omega) (by (dsimp only [List.set, List.cons_append, List.nil_append, List.take, List.drop]; done)) (fun _ => by (dsimp only [List.set]; done)) ?_)
 intro V2 hV2
 refine AM.ok ?_
 dsimp only [putE]
 refine AM.main _ rfl (fun w0 R0 => ?_)
 refine AO.callMG 0 rfl rfl Tryz.func96 rfl rfl rfl rfl rfl rfl (app_fn _ [45] 3 (by decide) ⟨by omega, by omega⟩) ?_
 rintro _ _ ⟨V3, hV3, rfl, rfl⟩
 dsimp only [List.cons_append, List.nil_append, List.eraseIdx]
 refine AM.ok ?_
 dsimp only [putE]
 refine AM.op rfl (O.assign rfl rfl) rfl rfl rfl ?_
 refine AM.nil ?_
 dsimp only [List.cons_append, List.nil_append]
 refine AQ.thenN ?_
 refine AW.ret ?_
 refine AQ.blockR ?_
 refine AQ.thenR ?_
 refine AQ.g ?_
 refine G.freezeRow 0 rfl [4] (by repeat (first | exact frNil | refine frCons rfl ?_)) ?_
 refine AQ.u ?_
 try dsimp only [List.map, List.eraseIdx, List.cons_append, List.nil_append]
 refine AQ.ret1 rfl rfl ⟨_, List.nil_sublist _, .nil⟩ (⟨rfl, rfl⟩)
abbrev uintR (n : Int) : List AV := [.val (.int .i64 0), .val (.int .u64 n), roB [], .ro false 0 []]
theorem putA_fn : Sp Tryz.prog 78 [.val (.slice none 0 0), itA 4 0 [] 1 (uintR 1)] [] (Is (roB [91, 49, 93])) := by
 refine Sp.enter Tryz.func78 rfl _ Tryz.ntmps78 rfl (fun w0 R0 => ?_)
 refine AW.seq ?_
 refine AW.region ?_
 refine AO.opB (O.box rfl rfl rfl rfl rfl) rfl rfl rfl ?_
 intro B1
 refine AO.op (O.assign rfl rfl) rfl rfl rfl ?_
 refine AO.nil ?_
 refine AQ.thenN ?_
 refine AW.seq ?_
 refine AW.seq ?_
 refine AW.region ?_
 refine AO.op (O.fieldAddr rfl rfl) rfl rfl rfl ?_
 refine AO.op (O.load rfl rfl (by repeat (exact List.Mem.head _)) (by rfl)) rfl rfl rfl ?_
 refine AO.nil ?_
 refine AQ.thenN ?_
 refine AW.block ?_
 refine AW.seq ?_
 refine AW.region ?_
 refine AO.op (O.eql rfl rfl rfl (by exact beq_eq_false_iff_ne.2 (by omega))) rfl rfl rfl ?_
 refine AO.op (O.assign rfl rfl) rfl rfl rfl ?_
 refine AO.nil ?_
 refine AQ.thenN ?_
 refine AW.condF rfl ?_
 refine AW.seq ?_
 refine AW.region ?_
 refine AO.op (O.eql rfl rfl rfl (by exact beq_eq_false_iff_ne.2 (by omega))) rfl rfl rfl ?_
 refine AO.op (O.assign rfl rfl) rfl rfl rfl ?_
 refine AO.nil ?_
 refine AQ.thenN ?_
 refine AW.condF rfl ?_
 refine AW.seq ?_
 refine AW.region ?_
 refine AO.op (O.eql rfl rfl rfl (by exact beq_eq_false_iff_ne.2 (by omega))) rfl rfl rfl ?_
 refine AO.op (O.assign rfl rfl) rfl rfl rfl ?_
 refine AO.nil ?_
 refine AQ.thenN ?_
 refine AW.condF rfl ?_
 refine AW.seq ?_
 refine AW.region ?_
 refine AO.op (O.eql rfl rfl rfl (by exact beq_eq_false_iff_ne.2 (by omega))) rfl rfl rfl ?_
 refine AO.op (O.assign rfl rfl) rfl rfl rfl ?_
 refine AO.nil ?_
 refine AQ.thenN ?_
 refine AW.condF rfl ?_
 refine AW.seq ?_
 refine AW.region ?_
 refine AO.op (O.eql rfl rfl rfl (by exact beq_eq_false_iff_ne.2 (by omega))) rfl rfl rfl ?_
 refine AO.op (O.assign rfl rfl) rfl rfl rfl ?_
 refine AO.nil ?_
 refine AQ.thenN ?_
 refine AW.condF rfl ?_
 refine AW.seq ?_
 refine AW.region ?_
 refine AO.op (O.eql rfl rfl rfl (by exact beq_eq_false_iff_ne.2 (by omega))) rfl rfl rfl ?_
 refine AO.op (O.assign rfl rfl) rfl rfl rfl ?_
 refine AO.nil ?_
 refine AQ.thenN ?_
 refine AW.condF rfl ?_
 refine AW.seq ?_
 refine AW.region ?_
 refine AO.op (O.eql rfl rfl rfl (by exact beq_eq_false_iff_ne.2 (by omega))) rfl rfl rfl ?_
 refine AO.op (O.assign rfl rfl) rfl rfl rfl ?_
 refine AO.nil ?_
 refine AQ.thenN ?_
 refine AW.condF rfl ?_
 refine AW.skip ?_
 refine AQ.blockN ?_
 refine AQ.thenN ?_
 refine AW.seq ?_
 refine AW.region ?_
 refine AO.op (O.assign rfl rfl) rfl rfl rfl ?_
 refine AO.op (O.assign rfl rfl) rfl rfl rfl ?_
 refine AO.nil ?_
 refine AQ.thenN ?_
 refine AW.seq ?_
 refine AW.seq ?_
 refine AW.region ?_
 refine AO.op (O.fieldAddr rfl rfl) rfl rfl rfl ?_
 refine AO.op (O.load rfl rfl (by repeat (exact List.Mem.head _)) (by rfl)) rfl rfl rfl ?_
 refine AO.op (O.eql rfl rfl rfl (by exact beq_eq_false_iff_ne.2 (by omega))) rfl rfl rfl ?_
 refine AO.nil ?_
 refine AQ.thenN ?_
 refine AW.condF rfl ?_
 refine AW.g ?_
 refine G.nilRow 5 1 ?_
 refine AW.u ?_
 refine AW.skip ?_
 refine AQ.thenN ?_
 refine AW.seq ?_
 refine AW.region ?_
 refine AO.op (O.move rfl rfl) rfl rfl rfl ?_
 refine AO.op (O.move rfl rfl) rfl rfl rfl ?_
 refine AO.opB (O.buildSlice rfl rfl rfl (by rfl) (by rfl) (by rfl) (by rfl)) rfl rfl rfl ?_
 intro B2
 refine AO.g ?_
 (refine G.freezeSl 0 112 rfl rfl ⟨Nat.le_refl _, by unfold maxLen; omega⟩ ?_)
 refine G.unfull 112 rfl ?_
 refine AO.u ?_
 dsimp only [List.eraseIdx]
 (refine AO.append' (i := 0) rfl rfl rfl rfl (by rfl) (by rfl) rfl rfl rfl (by exact SrcA.ro TyD.ax (by rfl) (Nat.le_of_ble_eq_true rfl)) (by rfl) (by (unfold maxLen; omega)) (by omega) (by (dsimp only [List.set, List.cons_append, List.nil_append, List.take, List.drop]; done)) (fun _ => by (dsimp only [List.set]; done)) ?_)
 intro V3 hV3
 refine AO.op (O.assign rfl rfl) rfl rfl rfl ?_
 refine AO.nil ?_
 refine AQ.thenN ?_
 refine AW.seq ?_
 refine AW.seq ?_
 refine AW.region ?_
 refine AO.op (O.fieldAddr rfl rfl) rfl rfl rfl ?_
 refine AO.op (O.load rfl rfl (by repeat (first | exact List.Mem.head _ | refine List.Mem.tail _ ?_)) (by rfl)) rfl rfl rfl ?_
 refine AO.op (O.lenR rfl rfl) rfl rfl rfl ?_
 refine AO.op (O.move rfl rfl) rfl rfl rfl ?_
 refine AO.nil ?_
 refine AQ.thenN ?_
 refine AW.block ?_
 refine AW.loopK [(3, _), (7, _), (115, _), (116, _)] (fun nn E H => ∃ (k : Nat) (V : Value) (n : Nat) (xs : List AV), (V.oneCell' = true) ∧ ((k = 0 ∧ n = 1 ∧ xs = bytesA [91]) ∨ (k = 1 ∧ n = 2 ∧ xs = bytesA [91, 49])) ∧ nn = 1 - k ∧ E = [(0, .val V), (117, .val (.int .i64 (k : Int)))] ∧ H = [.row V 5 1 n xs, .blk B1 100 4 [.val (.int .i64 4), .val (.int .u64 0), roB [], .ro false 1 (uintR 1)]]) _ (⟨0, _, _, _, ‹_›, .inl ⟨rfl, rfl, rfl⟩, rfl, rfl, rfl⟩) (by repeat (first | exact envNil | refine envCons rfl ?_)) (by repeat (first | exact envNil | refine envCons rfl ?_)) (by repeat (first | exact subPnil | refine subPcons 0 rfl ?_)) ?_
 rintro nn E H ⟨k, V, n, xs, hV, hc, rfl, rfl, rfl⟩
 dsimp only [List.cons_append, List.nil_append]
 obtain ⟨rfl, rfl, rfl⟩ | ⟨rfl, rfl, rfl⟩ := hc
 ·skip
  refine AW.seq ?_
  refine AW.region ?_
  refine AO.op (O.lss rfl rfl rfl (by exact bTrue (by omega))) rfl rfl rfl ?_
  refine AO.nil ?_
  refine AQ.thenN ?_
  refine AW.seq ?_
  refine AW.condT rfl ?_
  refine AW.skip ?_
  refine AQ.thenN ?_
  refine AW.seq ?_
  refine AW.block ?_
  refine AW.seq ?_
  refine AW.region ?_
  refine AO.op (O.move rfl rfl) rfl rfl rfl ?_
  refine AO.op (O.idxR rfl rfl rfl ⟨(by omega), (by omega)⟩) rfl rfl rfl ?_
  (refine AO.op (O.loadRK rfl rfl (by (dsimp only [List.set, List.cons_append, List.nil_append, List.take, List.drop]; done)) (by rfl)) rfl rfl rfl ?_)
  refine AO.opB (O.alloc rfl (by (dsimp only [zerosA, List.replicate, List.append, List.flatten, AV.cells, Value.cells, List.toList_toArray, List.map]; done)) (by rfl)) rfl rfl rfl ?_
  intro B4
  refine AO.op (O.assign rfl rfl) rfl rfl rfl ?_
  (refine AO.store (i := 0) rfl rfl rfl rfl rfl rfl (by rfl) (by rfl) (by rfl) (by (dsimp only [List.set, List.cons_append, List.nil_append, List.take, List.drop]; done)) (by (dsimp only [List.set, List.cons_append, List.nil_append, List.take, List.drop]; done)) ?_)
  refine AO.nil ?_
  refine AQ.thenN ?_
  refine AW.seq ?_
  refine AW.block ?_
  refine AW.seq ?_
  refine AW.region ?_
  refine AO.op (O.fieldAddr rfl rfl) rfl rfl rfl ?_
  refine AO.op (O.load rfl rfl (by repeat (first | exact List.Mem.head _ | refine List.Mem.tail _ ?_)) (by rfl)) rfl rfl rfl ?_
  refine AO.op (O.eql rfl rfl rfl (by exact beq_eq_false_iff_ne.2 (by omega))) rfl rfl rfl ?_
  refine AO.op (O.move rfl rfl) rfl rfl rfl ?_
  refine AO.no rfl rfl rfl ?_
  refine AO.no rfl rfl rfl ?_
  refine AO.no rfl rfl rfl ?_
  refine AO.op (O.pickF rfl rfl rfl) rfl rfl rfl ?_
  refine AO.op (O.assign rfl rfl) rfl rfl rfl ?_
  refine AO.nil ?_
  refine AQ.thenN ?_
  refine AW.condF rfl ?_
  refine AW.seq ?_
  refine AW.region ?_
  refine AO.op (O.move rfl rfl) rfl rfl rfl ?_
  refine AO.op (O.gtr rfl rfl rfl (by exact bFalse (by omega))) rfl rfl rfl ?_
  refine AO.op (O.assign rfl rfl) rfl rfl rfl ?_
  refine AO.nil ?_
  refine AQ.thenN ?_
  refine AW.condF rfl ?_
  refine AW.skip ?_
  refine AQ.blockN ?_
  refine AQ.thenN ?_
  refine AW.region ?_
  refine AO.op (O.move rfl rfl) rfl rfl rfl ?_
  (refine AO.op (O.loadK rfl rfl (by repeat (exact List.Mem.head _)) (by (dsimp only [List.set, List.cons_append, List.nil_append, List.take, List.drop]; done)) (by rfl)) rfl rfl rfl ?_)
  refine AO.callMG 1 rfl rfl Tryz.func78 rfl rfl rfl rfl rfl rfl (put1_fn _ [91] (by decide)) ?_
  rintro _ _ ⟨V5, hV5, rfl, rfl⟩
  dsimp only [List.cons_append, List.nil_append, List.eraseIdx]
  refine AO.op (O.assign rfl rfl) rfl rfl rfl ?_
  refine AO.nil ?_
  refine AQ.blockN ?_
  refine AQ.thenN ?_
  refine AW.region ?_
  refine AO.op (O.add rfl rfl rfl (by exact wI64 (by omega))) rfl rfl rfl ?_
  refine AO.op (O.move rfl rfl) rfl rfl rfl ?_
  refine AO.nil ?_
  refine AQ.loopKN _ _ _ (by omega) (⟨1, _, _, _, ‹_›, .inr ⟨rfl, rfl, rfl⟩, rfl, rfl, rfl⟩) (by repeat (first | exact envNil | refine envCons rfl ?_)) (by repeat (first | exact envNil | refine envCons rfl ?_)) (by repeat (first | exact subPnil | refine subPcons 0 rfl ?_ | refine subPcons 1 rfl ?_))
 ·skip
  refine AW.seq ?_
  refine AW.region ?_
  refine AO.op (O.lss rfl rfl rfl (by exact bFalse (by omega))) rfl rfl rfl ?_
  refine AO.nil ?_
  refine AQ.thenN ?_
  refine AW.seq ?_
  refine AW.condF rfl ?_
  refine AW.exit ?_
  refine AQ.thenX ?_
  refine AQ.loopX ?_
  refine AQ.blockX rfl ?_
  refine AQ.thenN ?_
  refine AW.seq ?_
  refine AW.region ?_
  refine AO.op (O.move rfl rfl) rfl rfl rfl ?_
  refine AO.op (O.move rfl rfl) rfl rfl rfl ?_
  refine AO.opB (O.buildSlice rfl rfl rfl (by rfl) (by rfl) (by rfl) (by rfl)) rfl rfl rfl ?_
  intro B4
  refine AO.g ?_
  (refine G.freezeSl 0 144 rfl rfl ⟨Nat.le_refl _, by unfold maxLen; omega⟩ ?_)
  refine G.unfull 144 rfl ?_
  refine AO.u ?_
  dsimp only [List.eraseIdx]
  (refine AO.append' (i := 0) rfl rfl rfl rfl (by rfl) (by rfl) rfl rfl rfl (by exact SrcA.ro TyD.ax (by rfl) (Nat.le_of_ble_eq_true rfl)) (by rfl) (by (unfold maxLen; omega)) (by omega) (by (dsimp only [List.set, List.cons_append, List.nil_append, List.take, List.drop]; done)) (fun _ => by (dsimp only [List.set]; done)) ?_)
  intro V5 hV5
  refine AO.op (O.assign rfl rfl) rfl rfl rfl ?_
  refine AO.nil ?_
  refine AQ.thenN ?_
  refine AW.ret ?_
  refine AQ.g ?_
  refine G.freezeRow 0 rfl [4] (by repeat (first | exact frNil | refine frCons rfl ?_)) ?_
  refine AQ.u ?_
  try dsimp only [List.map, List.eraseIdx, List.cons_append, List.nil_append]
  refine AQ.ret1 rfl rfl ⟨_, List.nil_sublist _, .nil⟩ (⟨rfl, rfl⟩)
 skip
end Go.Proofs.YtoonnnifelnaiaaGreatDoor.By

namespace Go.Proofs.YtoonnnifelnaiaaGreatDoor.By
open Go.RowKit L A Dk
set_option linter.unusedVariables false
set_option maxRecDepth 20000
set_option linter.unusedSimpArgs false
attribute [local irreducible] AW AQ AO
inductive It where
 | mk (k n : Int) (b : List UInt8) (l : List It)
abbrev hnI (k n : Int) (b : List UInt8) (m : Nat) : Int := if k = 2 then (b.length : Int) else if k = 4 then (m : Int) else n
mutual
def It.cells : It → List AV
 | .mk k n b l => [.val (.int .i64 k), .val (.int .u64 n), roB b, .ro false l.length (itsA l)]
def itsA : List It → List AV
 | [] => []
 | x :: l => x.cells ++ itsA l
end
mutual
def It.nodes : It → Nat
 | .mk _ _ _ l => 1 + nodesL l
def nodesL : List It → Nat
 | [] => 0
 | x :: l => x.nodes + nodesL l
end
mutual
def It.enc : It → List UInt8
 | .mk k n b l => u8 (32 * k + hnI k n b l.length) :: (b ++ encL l)
def encL : List It → List UInt8
 | [] => []
 | x :: l => x.enc ++ encL l
end
def leafI : It → Prop
 | .mk k n b l => l = [] ∧ ((k = 0 ∨ k = 1) ∧ 0 ≤ n ∧ n < 24 ∧ b = [] ∨ k = 2 ∧ n = 0 ∧ b.length < 24)
def It.ok : Nat → It → Prop
 | 0, x => leafI x
 | d + 1, x => leafI x ∨ match x with | .mk k n b l => k = 4 ∧ n = 0 ∧ b = [] ∧ l.length < 24 ∧ ∀ y ∈ l, It.ok d y
theorem itsA_eq (l : List It) : itsA l = l.flatMap It.cells := by
 induction l with
 | nil => rw [itsA]; rfl
 | cons x l ih => rw [itsA, ih, List.flatMap_cons]
theorem cells_len (x : It) : x.cells.length = 4 := by cases x; rw [It.cells]; rfl
theorem encL_snoc (l : List It) (x : It) : encL (l ++ [x]) = encL l ++ x.enc := by
 induction l with
 | nil => simp [encL]
 | cons y l ih => simp [encL, ih]
theorem nodesL_snoc (l : List It) (x : It) : nodesL (l ++ [x]) = nodesL l + x.nodes := by
 induction l with
 | nil => simp [nodesL]
 | cons y l ih => simp [nodesL, ih]; omega
theorem encL_app (l m : List It) : encL (l ++ m) = encL l ++ encL m := by
 induction l with
 | nil => simp [encL]
 | cons y l ih => simp [encL, ih]
theorem nodesL_app (l m : List It) : nodesL (l ++ m) = nodesL l + nodesL m := by
 induction l with
 | nil => simp [nodesL]
 | cons y l ih => simp [nodesL, ih]; omega
def itN : It := .mk 0 0 [] []
abbrev itat (l : List It) (k : Nat) : It := l.getD k itN
theorem getIt {l : List It} {k : Nat} (h : k < l.length) {j : Nat} (hj : j = k) : ((itsA l).drop (j * 4)).take 4 = (itat l k).cells := by
 rw [itsA_eq]; exact flat_at cells_len itN h hj
theorem head_fn (k n : Int) (hk : 0 ≤ k ∧ k ≤ 7) (hn : 0 ≤ n ∧ n < 24) : Sp Tryz.prog 113 [.val (.int .u8 k), .val (.int .u64 n)] [] (Is (roB [u8 (32 * k + n)])) := by
 have e : k * 32 + n = ((u8 (32 * k + n)).toNat : Int) := by rw [u8_small (by omega)]; omega
 refine Sp.enter Tryz.func113 rfl _ Tryz.ntmps113 rfl (fun w0 R0 => ?_)
 refine AW.seq ?_
 refine AW.region ?_
 refine AO.op (O.assign rfl rfl) rfl rfl rfl ?_
 refine AO.nil ?_
 refine AQ.thenN ?_
 refine AW.seq ?_
 refine AW.region ?_
 refine AO.op (O.move rfl rfl) rfl rfl rfl ?_
 refine AO.op (O.shlK 5 32 rfl rfl rfl rfl (by rfl) (by exact wU8 (by omega))) rfl rfl rfl ?_
 refine AO.op (O.assign rfl rfl) rfl rfl rfl ?_
 refine AO.nil ?_
 refine AQ.thenN ?_
 refine AW.seq ?_
 refine AW.block ?_
 refine AW.seq ?_
 refine AW.region ?_
 refine AO.op (O.move rfl rfl) rfl rfl rfl ?_
 refine AO.op (O.lss rfl rfl rfl (by exact bTrue (by omega))) rfl rfl rfl ?_
 refine AO.op (O.assign rfl rfl) rfl rfl rfl ?_
 refine AO.nil ?_
 refine AQ.thenN ?_
 refine AW.condT rfl ?_
 refine AW.seq ?_
 refine AW.region ?_
 refine AO.op (O.move rfl rfl) rfl rfl rfl ?_
 refine AO.op (O.move rfl rfl) rfl rfl rfl ?_
 refine AO.op (O.conv rfl rfl (by exact wU8 (by omega))) rfl rfl rfl ?_
 refine AO.op (O.or_ rfl rfl rfl (orU8 5 (m := 32) (by decide) (by omega) (by omega))) rfl rfl rfl ?_
 refine AO.opB (O.buildSlice rfl rfl rfl (by rfl) (by rfl) (by rfl) (by rfl)) rfl rfl rfl ?_
 intro B1
 refine AO.op (O.assign rfl rfl) rfl rfl rfl ?_
 refine AO.nil ?_
 refine AQ.thenN ?_
 refine AW.ret ?_
 refine AQ.blockR ?_
 refine AQ.thenR ?_
 refine AQ.g ?_
 (refine G.freezeSl 0 4 rfl rfl ⟨Nat.le_refl _, by unfold maxLen; omega⟩ ?_; refine G.unfull 4 rfl ?_)
 refine AQ.u ?_
 try dsimp only [List.map, List.eraseIdx, List.cons_append, List.nil_append]
 refine AQ.ret1 rfl rfl ⟨_, List.nil_sublist _, .nil⟩ (⟨by show AV.ro false 1 [.val (.int .u8 (k * 32 + n))] = _; rw [e]; rfl, rfl⟩)
theorem majorL_fn {k n : Int} {b : List UInt8} (hk : k = 0 ∨ k = 1) (hn : 0 ≤ n ∧ n < 24) : Sp Tryz.prog 114 [.agg [.val (.int .i64 k), .val (.int .u64 n), roB b, .ro false 0 []]] [] (Is (.tup [.val (.int .u8 k), .val (.int .u64 n)])) := by
 refine Sp.enter Tryz.func114 rfl _ Tryz.ntmps114 rfl (fun w0 R0 => ?_)
 refine AW.seq ?_
 refine AW.region ?_
 refine AO.opB (O.box rfl rfl rfl rfl rfl) rfl rfl rfl ?_
 intro B1
 refine AO.op (O.assign rfl rfl) rfl rfl rfl ?_
 refine AO.op (O.assign rfl rfl) rfl rfl rfl ?_
 refine AO.nil ?_
 refine AQ.thenN ?_
 refine AW.seq ?_
 refine AW.seq ?_
 refine AW.region ?_
 refine AO.op (O.fieldAddr rfl rfl) rfl rfl rfl ?_
 refine AO.op (O.load rfl rfl (by repeat (exact List.Mem.head _)) (by rfl)) rfl rfl rfl ?_
 refine AO.nil ?_
 refine AQ.thenN ?_
 refine AW.block ?_
 refine AW.seq ?_
 refine AW.seq ?_
 refine AW.region ?_
 refine AO.op (O.eql rfl rfl rfl (by exact beq_eq_false_iff_ne.2 (by omega))) rfl rfl rfl ?_
 refine AO.op (O.assign rfl rfl) rfl rfl rfl ?_
 refine AO.nil ?_
 refine AQ.thenN ?_
 refine AW.condF rfl ?_
 refine AW.region ?_
 refine AO.op (O.eql rfl rfl rfl (by exact beq_eq_false_iff_ne.2 (by omega))) rfl rfl rfl ?_
 refine AO.op (O.assign rfl rfl) rfl rfl rfl ?_
 refine AO.nil ?_
 refine AQ.thenN ?_
 refine AW.condF rfl ?_
 refine AW.seq ?_
 refine AW.region ?_
 refine AO.op (O.eql rfl rfl rfl (by exact beq_eq_false_iff_ne.2 (by omega))) rfl rfl rfl ?_
 refine AO.op (O.assign rfl rfl) rfl rfl rfl ?_
 refine AO.nil ?_
 refine AQ.thenN ?_
 refine AW.condF rfl ?_
 refine AW.seq ?_
 refine AW.region ?_
 refine AO.op (O.eql rfl rfl rfl (by exact beq_eq_false_iff_ne.2 (by omega))) rfl rfl rfl ?_
 refine AO.op (O.assign rfl rfl) rfl rfl rfl ?_
 refine AO.nil ?_
 refine AQ.thenN ?_
 refine AW.condF rfl ?_
 refine AW.skip ?_
 refine AQ.blockN ?_
 refine AQ.thenN ?_
 refine AW.seq ?_
 refine AW.regionD 7 (by kernel_rfl) (by kernel_rfl) ?_
 simp only [List.take_succ_cons, List.take_zero, List.drop_succ_cons, List.drop_zero]
 refine FA.op (O.fieldAddr rfl rfl) rfl rfl rfl rfl ?_
 refine FA.op (O.load rfl rfl (by repeat (exact List.Mem.head _)) (by rfl)) rfl rfl rfl rfl ?_
 refine FA.op (O.conv rfl rfl (by exact wU8 (by omega))) rfl rfl rfl rfl ?_
 refine FA.op (O.fieldAddr rfl rfl) rfl rfl rfl rfl ?_
 refine FA.op (O.load rfl rfl (by repeat (exact List.Mem.head _)) (by rfl)) rfl rfl rfl rfl ?_
 refine FA.op (O.assign rfl rfl) rfl rfl rfl rfl ?_
 refine FA.op (O.assign rfl rfl) rfl rfl rfl rfl ?_
 refine FA.nil ?_
 simp only [chosen, List.nil_append, List.cons_append, List.append_nil]
 refine AO.nil ?_
 refine AQ.thenN ?_
 refine AW.ret ?_
 refine AQ.ret2 rfl rfl rfl ⟨_, List.nil_sublist _, .nil⟩ (⟨rfl, rfl⟩)
theorem majorB_fn {b : List UInt8} (hb : b.length < 24) : Sp Tryz.prog 114 [.agg [.val (.int .i64 2), .val (.int .u64 0), roB b, .ro false 0 []]] [] (Is (.tup [.val (.int .u8 2), .val (.int .u64 (b.length : Int))])) := by
 refine Sp.enter Tryz.func114 rfl _ Tryz.ntmps114 rfl (fun w0 R0 => ?_)
 refine AW.seq ?_
 refine AW.region ?_
 refine AO.opB (O.box rfl rfl rfl rfl rfl) rfl rfl rfl ?_
 intro B1
 refine AO.op (O.assign rfl rfl) rfl rfl rfl ?_
 refine AO.op (O.assign rfl rfl) rfl rfl rfl ?_
 refine AO.nil ?_
 refine AQ.thenN ?_
 refine AW.seq ?_
 refine AW.seq ?_
 refine AW.region ?_
 refine AO.op (O.fieldAddr rfl rfl) rfl rfl rfl ?_
 refine AO.op (O.load rfl rfl (by repeat (exact List.Mem.head _)) (by rfl)) rfl rfl rfl ?_
 refine AO.nil ?_
 refine AQ.thenN ?_
 refine AW.block ?_
 refine AW.seq ?_
 refine AW.seq ?_
 refine AW.region ?_
 refine AO.op (O.eql rfl rfl rfl (by exact beq_iff_eq.2 (by omega))) rfl rfl rfl ?_
 refine AO.op (O.assign rfl rfl) rfl rfl rfl ?_
 refine AO.nil ?_
 refine AQ.thenN ?_
 refine AW.condT rfl ?_
 refine AW.skip ?_
 refine AQ.thenN ?_
 refine AW.condT rfl ?_
 refine AW.seq ?_
 refine AW.regionD 9 (by kernel_rfl) (by kernel_rfl) ?_
 simp only [List.take_succ_cons, List.take_zero, List.drop_succ_cons, List.drop_zero]
 refine FA.op (O.fieldAddr rfl rfl) rfl rfl rfl rfl ?_
 refine FA.op (O.load rfl rfl (by repeat (exact List.Mem.head _)) (by rfl)) rfl rfl rfl rfl ?_
 refine FA.op (O.conv rfl rfl (by exact wU8 (by omega))) rfl rfl rfl rfl ?_
 refine FA.op (O.fieldAddr rfl rfl) rfl rfl rfl rfl ?_
 refine FA.op (O.load rfl rfl (by repeat (exact List.Mem.head _)) (by rfl)) rfl rfl rfl rfl ?_
 refine FA.op (O.lenR rfl rfl) rfl rfl rfl rfl ?_
 refine FA.op (O.conv rfl rfl (by exact wU64 (by omega))) rfl rfl rfl rfl ?_
 refine FA.op (O.assign rfl rfl) rfl rfl rfl rfl ?_
 refine FA.op (O.assign rfl rfl) rfl rfl rfl rfl ?_
 refine FA.nil ?_
 simp only [chosen, List.nil_append, List.cons_append, List.append_nil]
 refine AO.nil ?_
 refine AQ.thenN ?_
 refine AW.ret ?_
 refine AQ.blockR ?_
 refine AQ.thenR ?_
 refine AQ.ret2 rfl rfl rfl ⟨_, List.nil_sublist _, .nil⟩ (⟨rfl, rfl⟩)
theorem majorA_fn {m : Nat} {xs : List AV} (hm : m < 24) : Sp Tryz.prog 114 [.agg [.val (.int .i64 4), .val (.int .u64 0), roB [], .ro false m xs]] [] (Is (.tup [.val (.int .u8 4), .val (.int .u64 (m : Int))])) := by
 refine Sp.enter Tryz.func114 rfl _ Tryz.ntmps114 rfl (fun w0 R0 => ?_)
 refine AW.seq ?_
 refine AW.region ?_
 refine AO.opB (O.box rfl rfl rfl rfl rfl) rfl rfl rfl ?_
 intro B1
 refine AO.op (O.assign rfl rfl) rfl rfl rfl ?_
 refine AO.op (O.assign rfl rfl) rfl rfl rfl ?_
 refine AO.nil ?_
 refine AQ.thenN ?_
 refine AW.seq ?_
 refine AW.seq ?_
 refine AW.region ?_
 refine AO.op (O.fieldAddr rfl rfl) rfl rfl rfl ?_
 refine AO.op (O.load rfl rfl (by repeat (exact List.Mem.head _)) (by rfl)) rfl rfl rfl ?_
 refine AO.nil ?_
 refine AQ.thenN ?_
 refine AW.block ?_
 refine AW.seq ?_
 refine AW.seq ?_
 refine AW.region ?_
 refine AO.op (O.eql rfl rfl rfl (by exact beq_eq_false_iff_ne.2 (by omega))) rfl rfl rfl ?_
 refine AO.op (O.assign rfl rfl) rfl rfl rfl ?_
 refine AO.nil ?_
 refine AQ.thenN ?_
 refine AW.condF rfl ?_
 refine AW.region ?_
 refine AO.op (O.eql rfl rfl rfl (by exact beq_eq_false_iff_ne.2 (by omega))) rfl rfl rfl ?_
 refine AO.op (O.assign rfl rfl) rfl rfl rfl ?_
 refine AO.nil ?_
 refine AQ.thenN ?_
 refine AW.condF rfl ?_
 refine AW.seq ?_
 refine AW.region ?_
 refine AO.op (O.eql rfl rfl rfl (by exact beq_iff_eq.2 (by omega))) rfl rfl rfl ?_
 refine AO.op (O.assign rfl rfl) rfl rfl rfl ?_
 refine AO.nil ?_
 refine AQ.thenN ?_
 refine AW.condT rfl ?_
 refine AW.seq ?_
 refine AW.regionD 6 (by kernel_rfl) (by kernel_rfl) ?_
 simp only [List.take_succ_cons, List.take_zero, List.drop_succ_cons, List.drop_zero]
 refine FA.op (O.fieldAddr rfl rfl) rfl rfl rfl rfl ?_
 refine FA.op (O.load rfl rfl (by repeat (exact List.Mem.head _)) (by rfl)) rfl rfl rfl rfl ?_
 refine FA.op (O.lenR rfl rfl) rfl rfl rfl rfl ?_
 refine FA.op (O.conv rfl rfl (by exact wU64 (by omega))) rfl rfl rfl rfl ?_
 refine FA.op (O.assign rfl rfl) rfl rfl rfl rfl ?_
 refine FA.op (O.assign rfl rfl) rfl rfl rfl rfl ?_
 refine FA.nil ?_
 simp only [chosen, List.nil_append, List.cons_append, List.append_nil]
 refine AO.nil ?_
 refine AQ.thenN ?_
 refine AW.ret ?_
 refine AQ.blockR ?_
 refine AQ.thenR ?_
 refine AQ.ret2 rfl rfl rfl ⟨_, List.nil_sublist _, .nil⟩ (⟨rfl, rfl⟩)
theorem plainL_fn {k n : Int} (hk : k = 0 ∨ k = 1) : Sp Tryz.prog 116 [.agg [.val (.int .i64 k), .val (.int .u64 n), roB [], .ro false 0 []]] [] (Is (.tup [.val (.bool true), .val (.bool true)])) := by
 rcases hk with rfl | rfl
 ·refine Sp.enter Tryz.func116 rfl _ Tryz.ntmps116 rfl (fun w0 R0 => ?_)
  refine AW.seq ?_
  refine AW.region ?_
  refine AO.opB (O.box rfl rfl rfl rfl rfl) rfl rfl rfl ?_
  intro B1
  refine AO.op (O.assign rfl rfl) rfl rfl rfl ?_
  refine AO.op (O.assign rfl rfl) rfl rfl rfl ?_
  refine AO.nil ?_
  refine AQ.thenN ?_
  refine AW.seq ?_
  refine AW.seq ?_
  refine AW.region ?_
  refine AO.op (O.fieldAddr rfl rfl) rfl rfl rfl ?_
  refine AO.op (O.load rfl rfl (by repeat (exact List.Mem.head _)) (by rfl)) rfl rfl rfl ?_
  refine AO.nil ?_
  refine AQ.thenN ?_
  refine AW.block ?_
  refine AW.seq ?_
  refine AW.seq ?_
  refine AW.region ?_
  refine AO.op (O.eql rfl rfl rfl (by exact beq_iff_eq.2 (by omega))) rfl rfl rfl ?_
  refine AO.op (O.assign rfl rfl) rfl rfl rfl ?_
  refine AO.nil ?_
  refine AQ.thenN ?_
  refine AW.condT rfl ?_
  refine AW.skip ?_
  refine AQ.thenN ?_
  refine AW.condT rfl ?_
  refine AW.seq ?_
  refine AW.region ?_
  refine AO.op (O.fieldAddr rfl rfl) rfl rfl rfl ?_
  refine AO.op (O.load rfl rfl (by repeat (exact List.Mem.head _)) (by rfl)) rfl rfl rfl ?_
  refine AO.op (O.lenR rfl rfl) rfl rfl rfl ?_
  refine AO.op (O.eql rfl rfl rfl (by rfl)) rfl rfl rfl ?_
  refine AO.op (O.move rfl rfl) rfl rfl rfl ?_
  refine AO.op (O.fieldAddr rfl rfl) rfl rfl rfl ?_
  refine AO.op (O.load rfl rfl (by repeat (exact List.Mem.head _)) (by rfl)) rfl rfl rfl ?_
  refine AO.op (O.lenR rfl rfl) rfl rfl rfl ?_
  refine AO.op (O.eql rfl rfl rfl (by exact beq_iff_eq.2 (by omega))) rfl rfl rfl ?_
  refine AO.op (O.pickT rfl rfl rfl) rfl rfl rfl ?_
  refine AO.op (O.assign rfl rfl) rfl rfl rfl ?_
  refine AO.op (O.assign rfl rfl) rfl rfl rfl ?_
  refine AO.nil ?_
  refine AQ.thenN ?_
  refine AW.ret ?_
  refine AQ.blockR ?_
  refine AQ.thenR ?_
  refine AQ.ret2 rfl rfl rfl ⟨_, List.nil_sublist _, .nil⟩ (⟨rfl, rfl⟩)
 ·refine Sp.enter Tryz.func116 rfl _ Tryz.ntmps116 rfl (fun w0 R0 => ?_)
  refine AW.seq ?_
  refine AW.region ?_
  refine AO.opB (O.box rfl rfl rfl rfl rfl) rfl rfl rfl ?_
  intro B1
  refine AO.op (O.assign rfl rfl) rfl rfl rfl ?_
  refine AO.op (O.assign rfl rfl) rfl rfl rfl ?_
  refine AO.nil ?_
  refine AQ.thenN ?_
  refine AW.seq ?_
  refine AW.seq ?_
  refine AW.region ?_
  refine AO.op (O.fieldAddr rfl rfl) rfl rfl rfl ?_
  refine AO.op (O.load rfl rfl (by repeat (exact List.Mem.head _)) (by rfl)) rfl rfl rfl ?_
  refine AO.nil ?_
  refine AQ.thenN ?_
  refine AW.block ?_
  refine AW.seq ?_
  refine AW.seq ?_
  refine AW.region ?_
  refine AO.op (O.eql rfl rfl rfl (by exact beq_eq_false_iff_ne.2 (by omega))) rfl rfl rfl ?_
  refine AO.op (O.assign rfl rfl) rfl rfl rfl ?_
  refine AO.nil ?_
  refine AQ.thenN ?_
  refine AW.condF rfl ?_
  refine AW.region ?_
  refine AO.op (O.eql rfl rfl rfl (by exact beq_iff_eq.2 (by omega))) rfl rfl rfl ?_
  refine AO.op (O.assign rfl rfl) rfl rfl rfl ?_
  refine AO.nil ?_
  refine AQ.thenN ?_
  refine AW.condT rfl ?_
  refine AW.seq ?_
  refine AW.region ?_
  refine AO.op (O.fieldAddr rfl rfl) rfl rfl rfl ?_
  refine AO.op (O.load rfl rfl (by repeat (exact List.Mem.head _)) (by rfl)) rfl rfl rfl ?_
  refine AO.op (O.lenR rfl rfl) rfl rfl rfl ?_
  refine AO.op (O.eql rfl rfl rfl (by rfl)) rfl rfl rfl ?_
  refine AO.op (O.move rfl rfl) rfl rfl rfl ?_
  refine AO.op (O.fieldAddr rfl rfl) rfl rfl rfl ?_
  refine AO.op (O.load rfl rfl (by repeat (exact List.Mem.head _)) (by rfl)) rfl rfl rfl ?_
  refine AO.op (O.lenR rfl rfl) rfl rfl rfl ?_
  refine AO.op (O.eql rfl rfl rfl (by exact beq_iff_eq.2 (by omega))) rfl rfl rfl ?_
  refine AO.op (O.pickT rfl rfl rfl) rfl rfl rfl ?_
  refine AO.op (O.assign rfl rfl) rfl rfl rfl ?_
  refine AO.op (O.assign rfl rfl) rfl rfl rfl ?_
  refine AO.nil ?_
  refine AQ.thenN ?_
  refine AW.ret ?_
  refine AQ.blockR ?_
  refine AQ.thenR ?_
  refine AQ.ret2 rfl rfl rfl ⟨_, List.nil_sublist _, .nil⟩ (⟨rfl, rfl⟩)
theorem plainB_fn {b : List UInt8} : Sp Tryz.prog 116 [.agg [.val (.int .i64 2), .val (.int .u64 0), roB b, .ro false 0 []]] [] (Is (.tup [.val (.bool true), .val (.bool true)])) := by
 refine Sp.enter Tryz.func116 rfl _ Tryz.ntmps116 rfl (fun w0 R0 => ?_)
 refine AW.seq ?_
 refine AW.region ?_
 refine AO.opB (O.box rfl rfl rfl rfl rfl) rfl rfl rfl ?_
 intro B1
 refine AO.op (O.assign rfl rfl) rfl rfl rfl ?_
 refine AO.op (O.assign rfl rfl) rfl rfl rfl ?_
 refine AO.nil ?_
 refine AQ.thenN ?_
 refine AW.seq ?_
 refine AW.seq ?_
 refine AW.region ?_
 refine AO.op (O.fieldAddr rfl rfl) rfl rfl rfl ?_
 refine AO.op (O.load rfl rfl (by repeat (exact List.Mem.head _)) (by rfl)) rfl rfl rfl ?_
 refine AO.nil ?_
 refine AQ.thenN ?_
 refine AW.block ?_
 refine AW.seq ?_
 refine AW.seq ?_
 refine AW.region ?_
 refine AO.op (O.eql rfl rfl rfl (by exact beq_eq_false_iff_ne.2 (by omega))) rfl rfl rfl ?_
 refine AO.op (O.assign rfl rfl) rfl rfl rfl ?_
 refine AO.nil ?_
 refine AQ.thenN ?_
 refine AW.condF rfl ?_
 refine AW.region ?_
 refine AO.op (O.eql rfl rfl rfl (by exact beq_eq_false_iff_ne.2 (by omega))) rfl rfl rfl ?_
 refine AO.op (O.assign rfl rfl) rfl rfl rfl ?_
 refine AO.nil ?_
 refine AQ.thenN ?_
 refine AW.condF rfl ?_
 refine AW.seq ?_
 refine AW.region ?_
 refine AO.op (O.eql rfl rfl rfl (by exact beq_iff_eq.2 (by omega))) rfl rfl rfl ?_
 refine AO.op (O.assign rfl rfl) rfl rfl rfl ?_
 refine AO.nil ?_
 refine AQ.thenN ?_
 refine AW.condT rfl ?_
 refine AW.seq ?_
 refine AW.region ?_
 refine AO.op (O.fieldAddr rfl rfl) rfl rfl rfl ?_
 refine AO.op (O.load rfl rfl (by repeat (exact List.Mem.head _)) (by rfl)) rfl rfl rfl ?_
 refine AO.op (O.eql rfl rfl rfl (by exact beq_iff_eq.2 (by omega))) rfl rfl rfl ?_
 refine AO.op (O.move rfl rfl) rfl rfl rfl ?_
 refine AO.op (O.fieldAddr rfl rfl) rfl rfl rfl ?_
 refine AO.op (O.load rfl rfl (by repeat (exact List.Mem.head _)) (by rfl)) rfl rfl rfl ?_
 refine AO.op (O.lenR rfl rfl) rfl rfl rfl ?_
 refine AO.op (O.eql rfl rfl rfl (by exact beq_iff_eq.2 (by omega))) rfl rfl rfl ?_
 refine AO.op (O.pickT rfl rfl rfl) rfl rfl rfl ?_
 refine AO.op (O.assign rfl rfl) rfl rfl rfl ?_
 refine AO.op (O.assign rfl rfl) rfl rfl rfl ?_
 refine AO.nil ?_
 refine AQ.thenN ?_
 refine AW.ret ?_
 refine AQ.blockR ?_
 refine AQ.thenR ?_
 refine AQ.ret2 rfl rfl rfl ⟨_, List.nil_sublist _, .nil⟩ (⟨rfl, rfl⟩)
theorem plainA_fn {m : Nat} {xs : List AV} : Sp Tryz.prog 116 [.agg [.val (.int .i64 4), .val (.int .u64 0), roB [], .ro false m xs]] [] (Is (.tup [.val (.bool false), .val (.bool false)])) := by
 refine Sp.enter Tryz.func116 rfl _ Tryz.ntmps116 rfl (fun w0 R0 => ?_)
 refine AW.seq ?_
 refine AW.region ?_
 refine AO.opB (O.box rfl rfl rfl rfl rfl) rfl rfl rfl ?_
 intro B1
 refine AO.op (O.assign rfl rfl) rfl rfl rfl ?_
 refine AO.op (O.assign rfl rfl) rfl rfl rfl ?_
 refine AO.nil ?_
 refine AQ.thenN ?_
 refine AW.seq ?_
 refine AW.seq ?_
 refine AW.region ?_
 refine AO.op (O.fieldAddr rfl rfl) rfl rfl rfl ?_
 refine AO.op (O.load rfl rfl (by repeat (exact List.Mem.head _)) (by rfl)) rfl rfl rfl ?_
 refine AO.nil ?_
 refine AQ.thenN ?_
 refine AW.block ?_
 refine AW.seq ?_
 refine AW.seq ?_
 refine AW.region ?_
 refine AO.op (O.eql rfl rfl rfl (by exact beq_eq_false_iff_ne.2 (by omega))) rfl rfl rfl ?_
 refine AO.op (O.assign rfl rfl) rfl rfl rfl ?_
 refine AO.nil ?_
 refine AQ.thenN ?_
 refine AW.condF rfl ?_
 refine AW.region ?_
 refine AO.op (O.eql rfl rfl rfl (by exact beq_eq_false_iff_ne.2 (by omega))) rfl rfl rfl ?_
 refine AO.op (O.assign rfl rfl) rfl rfl rfl ?_
 refine AO.nil ?_
 refine AQ.thenN ?_
 refine AW.condF rfl ?_
 refine AW.seq ?_
 refine AW.region ?_
 refine AO.op (O.eql rfl rfl rfl (by exact beq_eq_false_iff_ne.2 (by omega))) rfl rfl rfl ?_
 refine AO.op (O.assign rfl rfl) rfl rfl rfl ?_
 refine AO.nil ?_
 refine AQ.thenN ?_
 refine AW.condF rfl ?_
 refine AW.seq ?_
 refine AW.region ?_
 refine AO.op (O.eql rfl rfl rfl (by exact beq_eq_false_iff_ne.2 (by omega))) rfl rfl rfl ?_
 refine AO.op (O.assign rfl rfl) rfl rfl rfl ?_
 refine AO.nil ?_
 refine AQ.thenN ?_
 refine AW.condF rfl ?_
 refine AW.seq ?_
 refine AW.region ?_
 refine AO.op (O.eql rfl rfl rfl (by exact beq_eq_false_iff_ne.2 (by omega))) rfl rfl rfl ?_
 refine AO.op (O.assign rfl rfl) rfl rfl rfl ?_
 refine AO.nil ?_
 refine AQ.thenN ?_
 refine AW.condF rfl ?_
 refine AW.seq ?_
 refine AW.region ?_
 refine AO.op (O.eql rfl rfl rfl (by exact beq_eq_false_iff_ne.2 (by omega))) rfl rfl rfl ?_
 refine AO.op (O.assign rfl rfl) rfl rfl rfl ?_
 refine AO.nil ?_
 refine AQ.thenN ?_
 refine AW.condF rfl ?_
 refine AW.skip ?_
 refine AQ.blockN ?_
 refine AQ.thenN ?_
 refine AW.seq ?_
 refine AW.region ?_
 refine AO.op (O.assign rfl rfl) rfl rfl rfl ?_
 refine AO.op (O.assign rfl rfl) rfl rfl rfl ?_
 refine AO.nil ?_
 refine AQ.thenN ?_
 refine AW.ret ?_
 refine AQ.ret2 rfl rfl rfl ⟨_, List.nil_sublist _, .nil⟩ (⟨rfl, rfl⟩)
abbrev chkB (B : Nat) (it sz : Int) : HE := .blk B 162 2 [.val (.int .i64 it), .val (.int .i64 sz)]
theorem spendL_fn {B : Nat} {k n it sz : Int} (hk : k = 0 ∨ k = 1) (hn : 0 ≤ n ∧ n < 24) (hs : 0 ≤ sz ∧ sz < 4000) : Sp Tryz.prog 117 [ptr B, .agg [.val (.int .i64 k), .val (.int .u64 n), roB [], .ro false 0 []]] [chkB B it sz] (IsM (.val (.bool true)) (chkB B it (sz + 1))) := by
 have z1 : ([u8 (32 * k + n)] : List UInt8).length = 1 := rfl
 have z2 : ([] : List UInt8).length = 0 := rfl
 refine Sp.enter Tryz.func117 rfl _ Tryz.ntmps117 rfl (fun w0 R0 => ?_)
 refine AW.seq ?_
 refine AW.region ?_
 refine AO.opB (O.box rfl rfl rfl rfl rfl) rfl rfl rfl ?_
 intro B1
 refine AO.op (O.assign rfl rfl) rfl rfl rfl ?_
 refine AO.nil ?_
 refine AQ.thenN ?_
 refine AW.seq ?_
 refine AW.seq ?_
 refine AW.region ?_
 refine AO.op (O.fieldAddr rfl rfl) rfl rfl rfl ?_
 refine AO.op (O.load rfl rfl (by repeat (exact List.Mem.head _)) (by rfl)) rfl rfl rfl ?_
 refine AO.nil ?_
 refine AQ.thenN ?_
 refine AW.block ?_
 refine AW.seq ?_
 refine AW.region ?_
 refine AO.op (O.eql rfl rfl rfl (by exact beq_eq_false_iff_ne.2 (by omega))) rfl rfl rfl ?_
 refine AO.op (O.assign rfl rfl) rfl rfl rfl ?_
 refine AO.nil ?_
 refine AQ.thenN ?_
 refine AW.condF rfl ?_
 refine AW.seq ?_
 refine AW.region ?_
 refine AO.op (O.eql rfl rfl rfl (by exact beq_eq_false_iff_ne.2 (by omega))) rfl rfl rfl ?_
 refine AO.op (O.assign rfl rfl) rfl rfl rfl ?_
 refine AO.nil ?_
 refine AQ.thenN ?_
 refine AW.condF rfl ?_
 refine AW.regionD 17 (by kernel_rfl) (by kernel_rfl) ?_
 simp only [List.take_succ_cons, List.take_zero, List.drop_succ_cons, List.drop_zero]
 refine FA.op (O.move rfl rfl) rfl rfl rfl rfl ?_
 refine FA.op (O.nilCheck rfl rfl) rfl rfl rfl rfl ?_
 refine FA.op (O.fieldAddr rfl rfl) rfl rfl rfl rfl ?_
 refine FA.op (O.load rfl rfl (by repeat (first | exact List.Mem.head _ | refine List.Mem.tail _ ?_)) (by rfl)) rfl rfl rfl rfl ?_
 (refine FA.op (O.loadK rfl rfl (by repeat (exact List.Mem.head _)) (by (dsimp only [List.set, List.cons_append, List.nil_append, List.take, List.drop]; done)) (by rfl)) rfl rfl rfl rfl ?_)
 refine FA.op (O.call rfl Tryz.func114 rfl rfl rfl (majorL_fn hk hn)) rfl rfl rfl rfl ?_
 refine FA.op (O.extract rfl rfl rfl) rfl rfl rfl rfl ?_
 refine FA.op (O.extract rfl rfl rfl) rfl rfl rfl rfl ?_
 refine FA.op (O.call rfl Tryz.func113 rfl rfl rfl (head_fn k n ⟨by omega, by omega⟩ hn)) rfl rfl rfl rfl ?_
 refine FA.op (O.lenR rfl rfl) rfl rfl rfl rfl ?_
 refine FA.op (O.fieldAddr rfl rfl) rfl rfl rfl rfl ?_
 refine FA.op (O.load rfl rfl (by repeat (exact List.Mem.head _)) (by rfl)) rfl rfl rfl rfl ?_
 refine FA.op (O.lenR rfl rfl) rfl rfl rfl rfl ?_
 refine FA.op (O.add rfl rfl rfl (by exact wI64 (by omega))) rfl rfl rfl rfl ?_
 refine FA.op (O.add rfl rfl rfl (by exact wI64 (by omega))) rfl rfl rfl rfl ?_
 refine FA.op (O.nilCheck rfl rfl) rfl rfl rfl rfl ?_
 refine FA.op (O.fieldAddr rfl rfl) rfl rfl rfl rfl ?_
 refine FA.nil ?_
 simp only [chosen, List.nil_append, List.cons_append, List.append_nil]
 (refine AO.store (i := 1) rfl rfl rfl rfl rfl rfl (by rfl) (by rfl) (by rfl) (by (dsimp only [List.set, List.cons_append, List.nil_append, List.take, List.drop]; done)) (by (dsimp only [List.set, List.cons_append, List.nil_append, List.take, List.drop]; done)) ?_)
 refine AO.nil ?_
 refine AQ.blockN ?_
 refine AQ.thenN ?_
 refine AW.seq ?_
 refine AW.region ?_
 refine AO.op (O.move rfl rfl) rfl rfl rfl ?_
 refine AO.op (O.nilCheck rfl rfl) rfl rfl rfl ?_
 refine AO.op (O.fieldAddr rfl rfl) rfl rfl rfl ?_
 refine AO.op (O.load rfl rfl (by repeat (first | exact List.Mem.head _ | refine List.Mem.tail _ ?_)) (by rfl)) rfl rfl rfl ?_
 refine AO.op (O.leq rfl rfl rfl (by exact bTrue (by omega))) rfl rfl rfl ?_
 refine AO.op (O.assign rfl rfl) rfl rfl rfl ?_
 refine AO.nil ?_
 refine AQ.thenN ?_
 refine AW.ret ?_
 refine AQ.ret1 rfl rfl ⟨_, by repeat (first | exact List.Sublist.slnil | refine List.Sublist.cons_cons _ ?_ | refine List.Sublist.cons _ ?_), List.Perm.refl _⟩ (⟨rfl, rfl⟩)
theorem spendB_fn {B : Nat} {b : List UInt8} {it sz : Int} (hb : b.length < 24) (hs : 0 ≤ sz ∧ sz < 4000) : Sp Tryz.prog 117 [ptr B, .agg [.val (.int .i64 2), .val (.int .u64 0), roB b, .ro false 0 []]] [chkB B it sz] (IsM (.val (.bool true)) (chkB B it (sz + (1 + (b.length : Int))))) := by
 have z1 : ([u8 (32 * 2 + (b.length : Int))] : List UInt8).length = 1 := rfl
 refine Sp.enter Tryz.func117 rfl _ Tryz.ntmps117 rfl (fun w0 R0 => ?_)
 refine AW.seq ?_
 refine AW.region ?_
 refine AO.opB (O.box rfl rfl rfl rfl rfl) rfl rfl rfl ?_
 intro B1
 refine AO.op (O.assign rfl rfl) rfl rfl rfl ?_
 refine AO.nil ?_
 refine AQ.thenN ?_
 refine AW.seq ?_
 refine AW.seq ?_
 refine AW.region ?_
 refine AO.op (O.fieldAddr rfl rfl) rfl rfl rfl ?_
 refine AO.op (O.load rfl rfl (by repeat (exact List.Mem.head _)) (by rfl)) rfl rfl rfl ?_
 refine AO.nil ?_
 refine AQ.thenN ?_
 refine AW.block ?_
 refine AW.seq ?_
 refine AW.region ?_
 refine AO.op (O.eql rfl rfl rfl (by exact beq_eq_false_iff_ne.2 (by omega))) rfl rfl rfl ?_
 refine AO.op (O.assign rfl rfl) rfl rfl rfl ?_
 refine AO.nil ?_
 refine AQ.thenN ?_
 refine AW.condF rfl ?_
 refine AW.seq ?_
 refine AW.region ?_
 refine AO.op (O.eql rfl rfl rfl (by exact beq_eq_false_iff_ne.2 (by omega))) rfl rfl rfl ?_
 refine AO.op (O.assign rfl rfl) rfl rfl rfl ?_
 refine AO.nil ?_
 refine AQ.thenN ?_
 refine AW.condF rfl ?_
 refine AW.regionD 17 (by kernel_rfl) (by kernel_rfl) ?_
 simp only [List.take_succ_cons, List.take_zero, List.drop_succ_cons, List.drop_zero]
 refine FA.op (O.move rfl rfl) rfl rfl rfl rfl ?_
 refine FA.op (O.nilCheck rfl rfl) rfl rfl rfl rfl ?_
 refine FA.op (O.fieldAddr rfl rfl) rfl rfl rfl rfl ?_
 refine FA.op (O.load rfl rfl (by repeat (first | exact List.Mem.head _ | refine List.Mem.tail _ ?_)) (by rfl)) rfl rfl rfl rfl ?_
 (refine FA.op (O.loadK rfl rfl (by repeat (exact List.Mem.head _)) (by (dsimp only [List.set, List.cons_append, List.nil_append, List.take, List.drop]; done)) (by rfl)) rfl rfl rfl rfl ?_)
 refine FA.op (O.call rfl Tryz.func114 rfl rfl rfl (majorB_fn hb)) rfl rfl rfl rfl ?_
 refine FA.op (O.extract rfl rfl rfl) rfl rfl rfl rfl ?_
 refine FA.op (O.extract rfl rfl rfl) rfl rfl rfl rfl ?_
 refine FA.op (O.call rfl Tryz.func113 rfl rfl rfl (head_fn 2 (b.length : Int) ⟨by omega, by omega⟩ ⟨by omega, by omega⟩)) rfl rfl rfl rfl ?_
 refine FA.op (O.lenR rfl rfl) rfl rfl rfl rfl ?_
 refine FA.op (O.fieldAddr rfl rfl) rfl rfl rfl rfl ?_
 refine FA.op (O.load rfl rfl (by repeat (exact List.Mem.head _)) (by rfl)) rfl rfl rfl rfl ?_
 refine FA.op (O.lenR rfl rfl) rfl rfl rfl rfl ?_
 refine FA.op (O.add rfl rfl rfl (by exact wI64 (by omega))) rfl rfl rfl rfl ?_
 refine FA.op (O.add rfl rfl rfl (by exact wI64 (by omega))) rfl rfl rfl rfl ?_
 refine FA.op (O.nilCheck rfl rfl) rfl rfl rfl rfl ?_
 refine FA.op (O.fieldAddr rfl rfl) rfl rfl rfl rfl ?_
 refine FA.nil ?_
 simp only [chosen, List.nil_append, List.cons_append, List.append_nil]
 (refine AO.store (i := 1) rfl rfl rfl rfl rfl rfl (by rfl) (by rfl) (by rfl) (by (dsimp only [List.set, List.cons_append, List.nil_append, List.take, List.drop]; done)) (by (dsimp only [List.set, List.cons_append, List.nil_append, List.take, List.drop]; done)) ?_)
 refine AO.nil ?_
 refine AQ.blockN ?_
 refine AQ.thenN ?_
 refine AW.seq ?_
 refine AW.region ?_
 refine AO.op (O.move rfl rfl) rfl rfl rfl ?_
 refine AO.op (O.nilCheck rfl rfl) rfl rfl rfl ?_
 refine AO.op (O.fieldAddr rfl rfl) rfl rfl rfl ?_
 refine AO.op (O.load rfl rfl (by repeat (first | exact List.Mem.head _ | refine List.Mem.tail _ ?_)) (by rfl)) rfl rfl rfl ?_
 refine AO.op (O.leq rfl rfl rfl (by exact bTrue (by omega))) rfl rfl rfl ?_
 refine AO.op (O.assign rfl rfl) rfl rfl rfl ?_
 refine AO.nil ?_
 refine AQ.thenN ?_
 refine AW.ret ?_
 refine AQ.ret1 rfl rfl ⟨_, by repeat (first | exact List.Sublist.slnil | refine List.Sublist.cons_cons _ ?_ | refine List.Sublist.cons _ ?_), List.Perm.refl _⟩ (⟨rfl, rfl⟩)
theorem spendA_fn {B m : Nat} {xs : List AV} {it sz : Int} (hm : m < 24) (hs : 0 ≤ sz ∧ sz < 4000) : Sp Tryz.prog 117 [ptr B, .agg [.val (.int .i64 4), .val (.int .u64 0), roB [], .ro false m xs]] [chkB B it sz] (IsM (.val (.bool true)) (chkB B it (sz + 1))) := by
 have z1 : ([u8 (32 * 4 + (m : Int))] : List UInt8).length = 1 := rfl
 have z2 : ([] : List UInt8).length = 0 := rfl
 refine Sp.enter Tryz.func117 rfl _ Tryz.ntmps117 rfl (fun w0 R0 => ?_)
 refine AW.seq ?_
 refine AW.region ?_
 refine AO.opB (O.box rfl rfl rfl rfl rfl) rfl rfl rfl ?_
 intro B1
 refine AO.op (O.assign rfl rfl) rfl rfl rfl ?_
 refine AO.nil ?_
 refine AQ.thenN ?_
 refine AW.seq ?_
 refine AW.seq ?_
 refine AW.region ?_
 refine AO.op (O.fieldAddr rfl rfl) rfl rfl rfl ?_
 refine AO.op (O.load rfl rfl (by repeat (exact List.Mem.head _)) (by rfl)) rfl rfl rfl ?_
 refine AO.nil ?_
 refine AQ.thenN ?_
 refine AW.block ?_
 refine AW.seq ?_
 refine AW.region ?_
 refine AO.op (O.eql rfl rfl rfl (by exact beq_eq_false_iff_ne.2 (by omega))) rfl rfl rfl ?_
 refine AO.op (O.assign rfl rfl) rfl rfl rfl ?_
 refine AO.nil ?_
 refine AQ.thenN ?_
 refine AW.condF rfl ?_
 refine AW.seq ?_
 refine AW.region ?_
 refine AO.op (O.eql rfl rfl rfl (by exact beq_eq_false_iff_ne.2 (by omega))) rfl rfl rfl ?_
 refine AO.op (O.assign rfl rfl) rfl rfl rfl ?_
 refine AO.nil ?_
 refine AQ.thenN ?_
 refine AW.condF rfl ?_
 refine AW.regionD 17 (by kernel_rfl) (by kernel_rfl) ?_
 simp only [List.take_succ_cons, List.take_zero, List.drop_succ_cons, List.drop_zero]
 refine FA.op (O.move rfl rfl) rfl rfl rfl rfl ?_
 refine FA.op (O.nilCheck rfl rfl) rfl rfl rfl rfl ?_
 refine FA.op (O.fieldAddr rfl rfl) rfl rfl rfl rfl ?_
 refine FA.op (O.load rfl rfl (by repeat (first | exact List.Mem.head _ | refine List.Mem.tail _ ?_)) (by rfl)) rfl rfl rfl rfl ?_
 (refine FA.op (O.loadK rfl rfl (by repeat (exact List.Mem.head _)) (by (dsimp only [List.set, List.cons_append, List.nil_append, List.take, List.drop]; done)) (by rfl)) rfl rfl rfl rfl ?_)
 refine FA.op (O.call rfl Tryz.func114 rfl rfl rfl (majorA_fn hm)) rfl rfl rfl rfl ?_
 refine FA.op (O.extract rfl rfl rfl) rfl rfl rfl rfl ?_
 refine FA.op (O.extract rfl rfl rfl) rfl rfl rfl rfl ?_
 refine FA.op (O.call rfl Tryz.func113 rfl rfl rfl (head_fn 4 (m : Int) ⟨by omega, by omega⟩ ⟨by omega, by omega⟩)) rfl rfl rfl rfl ?_
 refine FA.op (O.lenR rfl rfl) rfl rfl rfl rfl ?_
 refine FA.op (O.fieldAddr rfl rfl) rfl rfl rfl rfl ?_
 refine FA.op (O.load rfl rfl (by repeat (exact List.Mem.head _)) (by rfl)) rfl rfl rfl rfl ?_
 refine FA.op (O.lenR rfl rfl) rfl rfl rfl rfl ?_
 refine FA.op (O.add rfl rfl rfl (by exact wI64 (by omega))) rfl rfl rfl rfl ?_
 refine FA.op (O.add rfl rfl rfl (by exact wI64 (by omega))) rfl rfl rfl rfl ?_
 refine FA.op (O.nilCheck rfl rfl) rfl rfl rfl rfl ?_
 refine FA.op (O.fieldAddr rfl rfl) rfl rfl rfl rfl ?_
 refine FA.nil ?_
 simp only [chosen, List.nil_append, List.cons_append, List.append_nil]
 (refine AO.store (i := 1) rfl rfl rfl rfl rfl rfl (by rfl) (by rfl) (by rfl) (by (dsimp only [List.set, List.cons_append, List.nil_append, List.take, List.drop]; done)) (by (dsimp only [List.set, List.cons_append, List.nil_append, List.take, List.drop]; done)) ?_)
 refine AO.nil ?_
 refine AQ.blockN ?_
 refine AQ.thenN ?_
 refine AW.seq ?_
 refine AW.region ?_
 refine AO.op (O.move rfl rfl) rfl rfl rfl ?_
 refine AO.op (O.nilCheck rfl rfl) rfl rfl rfl ?_
 refine AO.op (O.fieldAddr rfl rfl) rfl rfl rfl ?_
 refine AO.op (O.load rfl rfl (by repeat (first | exact List.Mem.head _ | refine List.Mem.tail _ ?_)) (by rfl)) rfl rfl rfl ?_
 refine AO.op (O.leq rfl rfl rfl (by exact bTrue (by omega))) rfl rfl rfl ?_
 refine AO.op (O.assign rfl rfl) rfl rfl rfl ?_
 refine AO.nil ?_
 refine AQ.thenN ?_
 refine AW.ret ?_
 refine AQ.ret1 rfl rfl ⟨_, by repeat (first | exact List.Sublist.slnil | refine List.Sublist.cons_cons _ ?_ | refine List.Sublist.cons _ ?_), List.Perm.refl _⟩ (⟨rfl, rfl⟩)
theorem chkL_fn {B : Nat} {k n it sz lv : Int} (hk : k = 0 ∨ k = 1) (hn : 0 ≤ n ∧ n < 24) (hi : 0 ≤ it ∧ it < 200) (hs : 0 ≤ sz ∧ sz < 4000) : Sp Tryz.prog 95 [ptr B, .agg [.val (.int .i64 k), .val (.int .u64 n), roB [], .ro false 0 []], .val (.int .i64 lv)] [chkB B it sz] (IsM (.val (.bool true)) (chkB B (it + 1) (sz + 1))) := by
 have z2 : ([] : List UInt8).length = 0 := rfl
 refine Sp.enter Tryz.func95 rfl _ Tryz.ntmps95 rfl (fun w0 R0 => ?_)
 refine AW.seq ?_
 refine AW.region ?_
 refine AO.opB (O.box rfl rfl rfl rfl rfl) rfl rfl rfl ?_
 intro B1
 refine AO.op (O.assign rfl rfl) rfl rfl rfl ?_
 refine AO.nil ?_
 refine AQ.thenN ?_
 refine AW.seq ?_
 refine AW.region ?_
 refine AO.op (O.move rfl rfl) rfl rfl rfl ?_
 refine AO.op (O.nilCheck rfl rfl) rfl rfl rfl ?_
 refine AO.op (O.fieldAddr rfl rfl) rfl rfl rfl ?_
 refine AO.op (O.load rfl rfl (by repeat (first | exact List.Mem.head _ | refine List.Mem.tail _ ?_)) (by rfl)) rfl rfl rfl ?_
 refine AO.op (O.add rfl rfl rfl (by exact wI64 (by omega))) rfl rfl rfl ?_
 refine AO.op (O.nilCheck rfl rfl) rfl rfl rfl ?_
 refine AO.op (O.fieldAddr rfl rfl) rfl rfl rfl ?_
 (refine AO.store (i := 1) rfl rfl rfl rfl rfl rfl (by rfl) (by rfl) (by rfl) (by (dsimp only [List.set, List.cons_append, List.nil_append, List.take, List.drop]; done)) (by (dsimp only [List.set, List.cons_append, List.nil_append, List.take, List.drop]; done)) ?_)
 refine AO.nil ?_
 refine AQ.thenN ?_
 refine AW.seq ?_
 refine AW.seq ?_
 refine AW.region ?_
 refine AO.op (O.move rfl rfl) rfl rfl rfl ?_
 refine AO.op (O.nilCheck rfl rfl) rfl rfl rfl ?_
 refine AO.op (O.fieldAddr rfl rfl) rfl rfl rfl ?_
 refine AO.op (O.load rfl rfl (by repeat (first | exact List.Mem.head _ | refine List.Mem.tail _ ?_)) (by rfl)) rfl rfl rfl ?_
 refine AO.op (O.gtr rfl rfl rfl (by exact bFalse (by omega))) rfl rfl rfl ?_
 refine AO.op (O.move rfl rfl) rfl rfl rfl ?_
 refine AO.op (O.fieldAddr rfl rfl) rfl rfl rfl ?_
 refine AO.op (O.load rfl rfl (by repeat (exact List.Mem.head _)) (by rfl)) rfl rfl rfl ?_
 refine AO.op (O.lenR rfl rfl) rfl rfl rfl ?_
 refine AO.op (O.gtr rfl rfl rfl (by exact bFalse (by omega))) rfl rfl rfl ?_
 refine AO.op (O.pickF rfl rfl rfl) rfl rfl rfl ?_
 refine AO.op (O.move rfl rfl) rfl rfl rfl ?_
 refine AO.op (O.fieldAddr rfl rfl) rfl rfl rfl ?_
 refine AO.op (O.load rfl rfl (by repeat (exact List.Mem.head _)) (by rfl)) rfl rfl rfl ?_
 refine AO.op (O.lenR rfl rfl) rfl rfl rfl ?_
 refine AO.op (O.gtr rfl rfl rfl (by exact bFalse (by omega))) rfl rfl rfl ?_
 refine AO.op (O.pickF rfl rfl rfl) rfl rfl rfl ?_
 refine AO.nil ?_
 refine AQ.thenN ?_
 refine AW.condF rfl ?_
 refine AW.skip ?_
 refine AQ.thenN ?_
 refine AW.seq ?_
 refine AW.seq ?_
 refine AW.region ?_
 (refine AO.op (O.loadK rfl rfl (by repeat (exact List.Mem.head _)) (by (dsimp only [List.set, List.cons_append, List.nil_append, List.take, List.drop]; done)) (by rfl)) rfl rfl rfl ?_)
 refine AO.op (O.call rfl Tryz.func116 rfl rfl rfl (plainL_fn hk)) rfl rfl rfl ?_
 refine AO.op (O.move rfl rfl) rfl rfl rfl ?_
 refine AO.op (O.extract rfl rfl rfl) rfl rfl rfl ?_
 refine AO.op (O.extract rfl rfl rfl) rfl rfl rfl ?_
 refine AO.op (O.assign rfl rfl) rfl rfl rfl ?_
 refine AO.op (O.assign rfl rfl) rfl rfl rfl ?_
 refine AO.nil ?_
 refine AQ.thenN ?_
 refine AW.seq ?_
 refine AW.region ?_
 refine AO.op (O.move rfl rfl) rfl rfl rfl ?_
 refine AO.nil ?_
 refine AQ.thenN ?_
 refine AW.condT rfl ?_
 refine AW.seq ?_
 refine AW.region ?_
 refine AO.op (O.move rfl rfl) rfl rfl rfl ?_
 refine AO.op (O.move rfl rfl) rfl rfl rfl ?_
 refine AO.op (O.move rfl rfl) rfl rfl rfl ?_
 (refine AO.op (O.loadK rfl rfl (by repeat (exact List.Mem.head _)) (by (dsimp only [List.set, List.cons_append, List.nil_append, List.take, List.drop]; done)) (by rfl)) rfl rfl rfl ?_)
 (refine AO.callM1w (i := 1) rfl rfl Tryz.func117 rfl rfl rfl rfl rfl rfl (spendL_fn hk hn hs) (by (dsimp only [List.set, List.cons_append, List.nil_append, List.take, List.drop]; done)) ?_)
 refine AO.op (O.pickT rfl rfl rfl) rfl rfl rfl ?_
 refine AO.op (O.assign rfl rfl) rfl rfl rfl ?_
 refine AO.nil ?_
 refine AQ.thenN ?_
 refine AW.ret ?_
 refine AQ.thenR ?_
 refine AQ.ret1 rfl rfl ⟨_, by repeat (first | exact List.Sublist.slnil | refine List.Sublist.cons_cons _ ?_ | refine List.Sublist.cons _ ?_), List.Perm.refl _⟩ (⟨rfl, rfl⟩)
theorem chkB_fn {B : Nat} {b : List UInt8} {it sz lv : Int} (hb : b.length < 24) (hi : 0 ≤ it ∧ it < 200) (hs : 0 ≤ sz ∧ sz < 4000) : Sp Tryz.prog 95 [ptr B, .agg [.val (.int .i64 2), .val (.int .u64 0), roB b, .ro false 0 []], .val (.int .i64 lv)] [chkB B it sz] (IsM (.val (.bool true)) (chkB B (it + 1) (sz + (1 + (b.length : Int))))) := by
 refine Sp.enter Tryz.func95 rfl _ Tryz.ntmps95 rfl (fun w0 R0 => ?_)
 refine AW.seq ?_
 refine AW.region ?_
 refine AO.opB (O.box rfl rfl rfl rfl rfl) rfl rfl rfl ?_
 intro B1
 refine AO.op (O.assign rfl rfl) rfl rfl rfl ?_
 refine AO.nil ?_
 refine AQ.thenN ?_
 refine AW.seq ?_
 refine AW.region ?_
 refine AO.op (O.move rfl rfl) rfl rfl rfl ?_
 refine AO.op (O.nilCheck rfl rfl) rfl rfl rfl ?_
 refine AO.op (O.fieldAddr rfl rfl) rfl rfl rfl ?_
 refine AO.op (O.load rfl rfl (by repeat (first | exact List.Mem.head _ | refine List.Mem.tail _ ?_)) (by rfl)) rfl rfl rfl ?_
 refine AO.op (O.add rfl rfl rfl (by exact wI64 (by omega))) rfl rfl rfl ?_
 refine AO.op (O.nilCheck rfl rfl) rfl rfl rfl ?_
 refine AO.op (O.fieldAddr rfl rfl) rfl rfl rfl ?_
 (refine AO.store (i := 1) rfl rfl rfl rfl rfl rfl (by rfl) (by rfl) (by rfl) (by (dsimp only [List.set, List.cons_append, List.nil_append, List.take, List.drop]; done)) (by (dsimp only [List.set, List.cons_append, List.nil_append, List.take, List.drop]; done)) ?_)
 refine AO.nil ?_
 refine AQ.thenN ?_
 refine AW.seq ?_
 refine AW.seq ?_
 refine AW.region ?_
 refine AO.op (O.move rfl rfl) rfl rfl rfl ?_
 refine AO.op (O.nilCheck rfl rfl) rfl rfl rfl ?_
 refine AO.op (O.fieldAddr rfl rfl) rfl rfl rfl ?_
 refine AO.op (O.load rfl rfl (by repeat (first | exact List.Mem.head _ | refine List.Mem.tail _ ?_)) (by rfl)) rfl rfl rfl ?_
 refine AO.op (O.gtr rfl rfl rfl (by exact bFalse (by omega))) rfl rfl rfl ?_
 refine AO.op (O.move rfl rfl) rfl rfl rfl ?_
 refine AO.op (O.fieldAddr rfl rfl) rfl rfl rfl ?_
 refine AO.op (O.load rfl rfl (by repeat (exact List.Mem.head _)) (by rfl)) rfl rfl rfl ?_
 refine AO.op (O.lenR rfl rfl) rfl rfl rfl ?_
 refine AO.op (O.gtr rfl rfl rfl (by exact bFalse (by omega))) rfl rfl rfl ?_
 refine AO.op (O.pickF rfl rfl rfl) rfl rfl rfl ?_
 refine AO.op (O.move rfl rfl) rfl rfl rfl ?_
 refine AO.op (O.fieldAddr rfl rfl) rfl rfl rfl ?_
 refine AO.op (O.load rfl rfl (by repeat (exact List.Mem.head _)) (by rfl)) rfl rfl rfl ?_
 refine AO.op (O.lenR rfl rfl) rfl rfl rfl ?_
 refine AO.op (O.gtr rfl rfl rfl (by exact bFalse (by omega))) rfl rfl rfl ?_
 refine AO.op (O.pickF rfl rfl rfl) rfl rfl rfl ?_
 refine AO.nil ?_
 refine AQ.thenN ?_
 refine AW.condF rfl ?_
 refine AW.skip ?_
 refine AQ.thenN ?_
 refine AW.seq ?_
 refine AW.seq ?_
 refine AW.region ?_
 (refine AO.op (O.loadK rfl rfl (by repeat (exact List.Mem.head _)) (by (dsimp only [List.set, List.cons_append, List.nil_append, List.take, List.drop]; done)) (by rfl)) rfl rfl rfl ?_)
 refine AO.op (O.call rfl Tryz.func116 rfl rfl rfl (plainB_fn)) rfl rfl rfl ?_
 refine AO.op (O.move rfl rfl) rfl rfl rfl ?_
 refine AO.op (O.extract rfl rfl rfl) rfl rfl rfl ?_
 refine AO.op (O.extract rfl rfl rfl) rfl rfl rfl ?_
 refine AO.op (O.assign rfl rfl) rfl rfl rfl ?_
 refine AO.op (O.assign rfl rfl) rfl rfl rfl ?_
 refine AO.nil ?_
 refine AQ.thenN ?_
 refine AW.seq ?_
 refine AW.region ?_
 refine AO.op (O.move rfl rfl) rfl rfl rfl ?_
 refine AO.nil ?_
 refine AQ.thenN ?_
 refine AW.condT rfl ?_
 refine AW.seq ?_
 refine AW.region ?_
 refine AO.op (O.move rfl rfl) rfl rfl rfl ?_
 refine AO.op (O.move rfl rfl) rfl rfl rfl ?_
 refine AO.op (O.move rfl rfl) rfl rfl rfl ?_
 (refine AO.op (O.loadK rfl rfl (by repeat (exact List.Mem.head _)) (by (dsimp only [List.set, List.cons_append, List.nil_append, List.take, List.drop]; done)) (by rfl)) rfl rfl rfl ?_)
 (refine AO.callM1w (i := 1) rfl rfl Tryz.func117 rfl rfl rfl rfl rfl rfl (spendB_fn hb hs) (by (dsimp only [List.set, List.cons_append, List.nil_append, List.take, List.drop]; done)) ?_)
 refine AO.op (O.pickT rfl rfl rfl) rfl rfl rfl ?_
 refine AO.op (O.assign rfl rfl) rfl rfl rfl ?_
 refine AO.nil ?_
 refine AQ.thenN ?_
 refine AW.ret ?_
 refine AQ.thenR ?_
 refine AQ.ret1 rfl rfl ⟨_, by repeat (first | exact List.Sublist.slnil | refine List.Sublist.cons_cons _ ?_ | refine List.Sublist.cons _ ?_), List.Perm.refl _⟩ (⟨rfl, rfl⟩)
/-! ### Trees -/
theorem enc_leaf {k n : Int} {b : List UInt8} : (It.mk k n b []).enc = u8 (32 * k + hnI k n b 0) :: b := by
 rw [It.enc, encL, List.append_nil]; rfl
theorem enc_arr {n : Int} {l : List It} : (It.mk 4 n [] l).enc = u8 (32 * 4 + (l.length : Int)) :: encL l := by
 rw [It.enc]; rfl
theorem node_mk {k n : Int} {b : List UInt8} {l : List It} : (It.mk k n b l).nodes = 1 + nodesL l := by rw [It.nodes]
abbrev ChkSp (B : Nat) (x : It) (lv : Int) : Prop := ∀ it sz : Int, 0 ≤ it → it + x.nodes < 200 → 0 ≤ sz → sz + x.enc.length < 4000 →
 Sp Tryz.prog 95 [ptr B, .agg x.cells, .val (.int .i64 lv)] [chkB B it sz] (IsM (.val (.bool true)) (chkB B (it + x.nodes) (sz + x.enc.length)))
theorem chk_leaf {B : Nat} {x : It} (h : leafI x) (lv : Int) : ChkSp B x lv := by
 obtain ⟨k, n, b, l⟩ := x
 intro it sz h1 h2 h3 h4
 rcases h with ⟨rfl, ⟨hk, hn, hn2, rfl⟩ | ⟨rfl, rfl, hb⟩⟩
 ·rw [enc_leaf, node_mk, nodesL] at *
  simp only [List.length_cons, List.length_nil] at h4 ⊢
  exact chkL_fn hk ⟨hn, hn2⟩ ⟨h1, by omega⟩ ⟨h3, by omega⟩
 ·rw [enc_leaf, node_mk, nodesL] at *
  simp only [List.length_cons] at h4 ⊢
  have := chkB_fn (B := B) (it := it) (sz := sz) (lv := lv) hb ⟨h1, by omega⟩ ⟨h3, by omega⟩
  rw [show sz + (1 + (b.length : Int)) = sz + ((b.length + 1 : Nat) : Int) by omega] at this
  exact this
theorem chk_arr {B : Nat} {l : List It} {lv : Int} (hlv : 0 ≤ lv ∧ lv < 8) (hm : l.length < 24) (hS : ∀ q, q < l.length → ChkSp B (itat l q) (lv + 1)) : ChkSp B (.mk 4 0 [] l) lv := by
 intro it sz h1 h2 h3 h4
 rw [enc_arr, node_mk] at *
 simp only [List.length_cons] at h4 ⊢
 have hs : 0 ≤ sz ∧ sz < 4000 := by omega
 have z2 : ([] : List UInt8).length = 0 := rfl
 show Sp Tryz.prog 95 [ptr B, .agg [.val (.int .i64 4), .val (.int .u64 0), roB [], .ro false l.length (itsA l)], .val (.int .i64 lv)] [chkB B it sz] _
 refine Sp.enter Tryz.func95 rfl _ Tryz.ntmps95 rfl (fun w0 R0 => ?_)
 refine AW.seq ?_
 refine AW.region ?_
 refine AO.opB (O.box rfl rfl rfl rfl rfl) rfl rfl rfl ?_
 intro B1
 refine AO.op (O.assign rfl rfl) rfl rfl rfl ?_
 refine AO.nil ?_
 refine AQ.thenN ?_
 refine AW.seq ?_
 refine AW.region ?_
 refine AO.op (O.move rfl rfl) rfl rfl rfl ?_
 refine AO.op (O.nilCheck rfl rfl) rfl rfl rfl ?_
 refine AO.op (O.fieldAddr rfl rfl) rfl rfl rfl ?_
 refine AO.op (O.load rfl rfl (by repeat (first | exact List.Mem.head _ | refine List.Mem.tail _ ?_)) (by rfl)) rfl rfl rfl ?_
 refine AO.op (O.add rfl rfl rfl (by exact wI64 (by omega))) rfl rfl rfl ?_
 refine AO.op (O.nilCheck rfl rfl) rfl rfl rfl ?_
 refine AO.op (O.fieldAddr rfl rfl) rfl rfl rfl ?_
 (refine AO.store (i := 1) rfl rfl rfl rfl rfl rfl (by rfl) (by rfl) (by rfl) (by (dsimp only [List.set, List.cons_append, List.nil_append, List.take, List.drop]; done)) (by (dsimp only [List.set, List.cons_append, List.nil_append, List.take, List.drop]; done)) ?_)
 refine AO.nil ?_
 refine AQ.thenN ?_
 refine AW.seq ?_
 refine AW.seq ?_
 refine AW.region ?_
 refine AO.op (O.move rfl rfl) rfl rfl rfl ?_
 refine AO.op (O.nilCheck rfl rfl) rfl rfl rfl ?_
 refine AO.op (O.fieldAddr rfl rfl) rfl rfl rfl ?_
 refine AO.op (O.load rfl rfl (by repeat (first | exact List.Mem.head _ | refine List.Mem.tail _ ?_)) (by rfl)) rfl rfl rfl ?_
 refine AO.op (O.gtr rfl rfl rfl (by exact bFalse (by omega))) rfl rfl rfl ?_
 refine AO.op (O.move rfl rfl) rfl rfl rfl ?_
 refine AO.op (O.fieldAddr rfl rfl) rfl rfl rfl ?_
 refine AO.op (O.load rfl rfl (by repeat (exact List.Mem.head _)) (by rfl)) rfl rfl rfl ?_
 refine AO.op (O.lenR rfl rfl) rfl rfl rfl ?_
 refine AO.op (O.gtr rfl rfl rfl (by exact bFalse (by omega))) rfl rfl rfl ?_
 refine AO.op (O.pickF rfl rfl rfl) rfl rfl rfl ?_
 refine AO.op (O.move rfl rfl) rfl rfl rfl ?_
 refine AO.op (O.fieldAddr rfl rfl) rfl rfl rfl ?_
 refine AO.op (O.load rfl rfl (by repeat (exact List.Mem.head _)) (by rfl)) rfl rfl rfl ?_
 refine AO.op (O.lenR rfl rfl) rfl rfl rfl ?_
 refine AO.op (O.gtr rfl rfl rfl (by exact bFalse (by omega))) rfl rfl rfl ?_
 refine AO.op (O.pickF rfl rfl rfl) rfl rfl rfl ?_
 refine AO.nil ?_
 refine AQ.thenN ?_
 refine AW.condF rfl ?_
 refine AW.skip ?_
 refine AQ.thenN ?_
 refine AW.seq ?_
 refine AW.seq ?_
 refine AW.region ?_
 (refine AO.op (O.loadK rfl rfl (by repeat (exact List.Mem.head _)) (by (dsimp only [List.set, List.cons_append, List.nil_append, List.take, List.drop]; done)) (by rfl)) rfl rfl rfl ?_)
 refine AO.op (O.call rfl Tryz.func116 rfl rfl rfl (plainA_fn)) rfl rfl rfl ?_
 refine AO.op (O.move rfl rfl) rfl rfl rfl ?_
 refine AO.op (O.extract rfl rfl rfl) rfl rfl rfl ?_
 refine AO.op (O.extract rfl rfl rfl) rfl rfl rfl ?_
 refine AO.op (O.assign rfl rfl) rfl rfl rfl ?_
 refine AO.op (O.assign rfl rfl) rfl rfl rfl ?_
 refine AO.nil ?_
 refine AQ.thenN ?_
 refine AW.seq ?_
 refine AW.region ?_
 refine AO.op (O.move rfl rfl) rfl rfl rfl ?_
 refine AO.nil ?_
 refine AQ.thenN ?_
 refine AW.condF rfl ?_
 refine AW.skip ?_
 refine AQ.thenN ?_
 refine AW.seq ?_
 refine AW.seq ?_
 refine AW.region ?_
 refine AO.op (O.fieldAddr rfl rfl) rfl rfl rfl ?_
 refine AO.op (O.load rfl rfl (by repeat (exact List.Mem.head _)) (by rfl)) rfl rfl rfl ?_
 refine AO.op (O.lss rfl rfl rfl (by exact bFalse (by omega))) rfl rfl rfl ?_
 refine AO.op (O.move rfl rfl) rfl rfl rfl ?_
 refine AO.op (O.fieldAddr rfl rfl) rfl rfl rfl ?_
 refine AO.op (O.load rfl rfl (by repeat (exact List.Mem.head _)) (by rfl)) rfl rfl rfl ?_
 refine AO.op (O.gtr rfl rfl rfl (by exact bFalse (by omega))) rfl rfl rfl ?_
 refine AO.op (O.pickF rfl rfl rfl) rfl rfl rfl ?_
 refine AO.op (O.move rfl rfl) rfl rfl rfl ?_
 refine AO.op (O.move rfl rfl) rfl rfl rfl ?_
 refine AO.op (O.geq rfl rfl rfl (by exact bFalse (by omega))) rfl rfl rfl ?_
 refine AO.op (O.pickF rfl rfl rfl) rfl rfl rfl ?_
 refine AO.op (O.move rfl rfl) rfl rfl rfl ?_
 refine AO.op (O.fieldAddr rfl rfl) rfl rfl rfl ?_
 refine AO.op (O.load rfl rfl (by repeat (exact List.Mem.head _)) (by rfl)) rfl rfl rfl ?_
 refine AO.op (O.lenR rfl rfl) rfl rfl rfl ?_
 refine AO.op (O.gtr rfl rfl rfl (by exact bFalse (by omega))) rfl rfl rfl ?_
 refine AO.op (O.pickF rfl rfl rfl) rfl rfl rfl ?_
 refine AO.nil ?_
 refine AQ.thenN ?_
 refine AW.condF rfl ?_
 refine AW.skip ?_
 refine AQ.thenN ?_
 refine AW.seq ?_
 refine AW.seq ?_
 refine AW.region ?_
 refine AO.op (O.fieldAddr rfl rfl) rfl rfl rfl ?_
 refine AO.op (O.load rfl rfl (by repeat (exact List.Mem.head _)) (by rfl)) rfl rfl rfl ?_
 refine AO.op (O.eql rfl rfl rfl (by exact beq_eq_false_iff_ne.2 (by omega))) rfl rfl rfl ?_
 refine AO.op (O.move rfl rfl) rfl rfl rfl ?_
 refine AO.no rfl rfl rfl ?_
 refine AO.no rfl rfl rfl ?_
 refine AO.no rfl rfl rfl ?_
 refine AO.no rfl rfl rfl ?_
 refine AO.op (O.pickF rfl rfl rfl) rfl rfl rfl ?_
 refine AO.op (O.move rfl rfl) rfl rfl rfl ?_
 refine AO.op (O.fieldAddr rfl rfl) rfl rfl rfl ?_
 refine AO.op (O.load rfl rfl (by repeat (exact List.Mem.head _)) (by rfl)) rfl rfl rfl ?_
 refine AO.op (O.neq rfl rfl rfl (by exact bne_iff_ne.2 (by omega))) rfl rfl rfl ?_
 refine AO.op (O.move rfl rfl) rfl rfl rfl ?_
 refine AO.op (O.fieldAddr rfl rfl) rfl rfl rfl ?_
 refine AO.op (O.load rfl rfl (by repeat (exact List.Mem.head _)) (by rfl)) rfl rfl rfl ?_
 refine AO.op (O.neq rfl rfl rfl (by exact bne_eq_false_iff_eq.2 (by omega))) rfl rfl rfl ?_
 refine AO.op (O.pickT rfl rfl rfl) rfl rfl rfl ?_
 refine AO.op (O.pickF rfl rfl rfl) rfl rfl rfl ?_
 refine AO.op (O.move rfl rfl) rfl rfl rfl ?_
 refine AO.op (O.fieldAddr rfl rfl) rfl rfl rfl ?_
 refine AO.op (O.load rfl rfl (by repeat (exact List.Mem.head _)) (by rfl)) rfl rfl rfl ?_
 refine AO.op (O.eql rfl rfl rfl (by exact beq_eq_false_iff_ne.2 (by omega))) rfl rfl rfl ?_
 refine AO.op (O.move rfl rfl) rfl rfl rfl ?_
 refine AO.no rfl rfl rfl ?_
 refine AO.no rfl rfl rfl ?_
 refine AO.no rfl rfl rfl ?_
 refine AO.no rfl rfl rfl ?_
 refine AO.no rfl rfl rfl ?_
 refine AO.op (O.pickF rfl rfl rfl) rfl rfl rfl ?_
 refine AO.op (O.pickF rfl rfl rfl) rfl rfl rfl ?_
 refine AO.nil ?_
 refine AQ.thenN ?_
 refine AW.condF rfl ?_
 refine AW.skip ?_
 refine AQ.thenN ?_
 refine AW.seq ?_
 refine AW.seq ?_
 refine AW.region ?_
 refine AO.op (O.move rfl rfl) rfl rfl rfl ?_
 (refine AO.op (O.loadK rfl rfl (by repeat (exact List.Mem.head _)) (by (dsimp only [List.set, List.cons_append, List.nil_append, List.take, List.drop]; done)) (by rfl)) rfl rfl rfl ?_)
 (refine AO.callM1 (i := 1) rfl rfl Tryz.func117 rfl rfl rfl rfl rfl rfl (spendA_fn hm hs) (by (dsimp only [List.set, List.cons_append, List.nil_append, List.take, List.drop]; done)) ?_)
 refine AO.op (O.not rfl rfl (by rfl)) rfl rfl rfl ?_
 refine AO.nil ?_
 refine AQ.thenN ?_
 refine AW.condF rfl ?_
 refine AW.skip ?_
 refine AQ.thenN ?_
 refine AW.seq ?_
 refine AW.seq ?_
 refine AW.region ?_
 refine AO.op (O.fieldAddr rfl rfl) rfl rfl rfl ?_
 refine AO.op (O.load rfl rfl (by repeat (exact List.Mem.head _)) (by rfl)) rfl rfl rfl ?_
 refine AO.op (O.lenR rfl rfl) rfl rfl rfl ?_
 refine AO.op (O.move rfl rfl) rfl rfl rfl ?_
 refine AO.nil ?_
 refine AQ.thenN ?_
 refine AW.block ?_
 have hnl : ∀ k, k ≤ l.length → nodesL (l.take k) ≤ nodesL l ∧ (encL (l.take k)).length ≤ (encL l).length := fun k hk => by
  have h5 := nodesL_app (l.take k) (l.drop k)
  have h6 := congrArg List.length (encL_app (l.take k) (l.drop k))
  rw [List.take_append_drop] at h5 h6
  rw [List.length_append] at h6
  omega
 refine AW.loopK [(0, _), (2, _), (4, _), (101, _), (102, _)] (fun nn E H => ∃ (k : Nat) (u v : Int), (k ≤ l.length) ∧ (u = it + 1 + (nodesL (l.take k) : Nat)) ∧ (v = sz + 1 + ((encL (l.take k)).length : Nat)) ∧ nn = l.length - k ∧ E = [(103, .val (.int .i64 (k : Int)))] ∧ H = [.blk B1 100 4 [.val (.int .i64 4), .val (.int .u64 0), roB [], .ro false l.length (itsA l)], chkB B u v]) _ (⟨0, it + 1, sz + 1, by omega, (by simp [nodesL]), (by simp [encL]), rfl, rfl, rfl⟩) (by repeat (first | exact envNil | refine envCons rfl ?_)) (by repeat (first | exact envNil | refine envCons rfl ?_)) (by repeat (first | exact subPnil | refine subPcons 0 rfl ?_)) ?_
 rintro nn E H ⟨k, u, v, hk, hu, hv, rfl, rfl, rfl⟩
 dsimp only [List.cons_append, List.nil_append]
 refine AW.seq ?_
 refine AW.region ?_
 refine AO.op (O.lss rfl rfl rfl (by rfl)) rfl rfl rfl ?_
 refine AO.nil ?_
 refine AQ.thenN ?_
 refine AW.seq ?_
 refine AW.split rfl (fun hlt => ?_) (fun hlt => ?_) <;> (try simp only [decide_eq_true_eq, decide_eq_false_iff_not, beq_iff_eq, beq_eq_false_iff_ne, bne_iff_ne, bne_eq_false_iff_eq, Bool.not_eq_true', Bool.not_eq_false', Bool.not_eq_true, Bool.not_eq_false, ne_eq, Int.not_lt, Int.not_le, Bool.and_eq_true, Bool.or_eq_true, Bool.or_eq_false_iff, Bool.and_eq_false_imp, strOf_toList, Decidable.not_not] at hlt)
 ·skip
  have hkl : k < l.length := by omega
  obtain ⟨kk, nn', bb, ll, hx⟩ : ∃ kk nn' bb ll, itat l k = .mk kk nn' bb ll := by cases h : itat l k; exact ⟨_, _, _, _, rfl⟩
  have hg : ((itsA l).drop (Int.toNat (k : Int) * 4)).take 4 = [.val (.int .i64 kk), .val (.int .u64 nn'), roB bb, .ro false ll.length (itsA ll)] := by
   rw [getIt hkl (by omega), hx, It.cells]
  have hSk := hS k hkl
  rw [hx] at hSk
  unfold ChkSp at hSk
  rw [It.cells] at hSk
  have hsn := take_snoc itN hkl
  have e1 := nodesL_snoc (l.take k) (itat l k)
  have e2 := congrArg List.length (encL_snoc (l.take k) (itat l k))
  rw [← hsn, hx] at e1 e2
  rw [List.length_append] at e2
  have h5 := hnl (k + 1) (by omega)
  refine AW.skip ?_
  refine AQ.thenN ?_
  refine AW.seq ?_
  refine AW.block ?_
  refine AW.seq ?_
  refine AW.region ?_
  refine AO.op (O.idxR rfl rfl rfl ⟨(by omega), (by omega)⟩) rfl rfl rfl ?_
  refine AO.op (O.loadRK rfl rfl (by exact hg) (by rfl)) rfl rfl rfl ?_
  refine AO.opB (O.alloc rfl (by (dsimp only [zerosA, List.replicate, List.append, List.flatten, AV.cells, Value.cells, List.toList_toArray, List.map]; done)) (by rfl)) rfl rfl rfl ?_
  intro B2
  (refine AO.store (i := 0) rfl rfl rfl rfl rfl rfl (by rfl) (by rfl) (by rfl) (by (dsimp only [List.set, List.cons_append, List.nil_append, List.take, List.drop]; done)) (by (dsimp only [List.set, List.cons_append, List.nil_append, List.take, List.drop]; done)) ?_)
  refine AO.nil ?_
  refine AQ.thenN ?_
  refine AW.seq ?_
  refine AW.region ?_
  refine AO.op (O.move rfl rfl) rfl rfl rfl ?_
  refine AO.op (O.loadK rfl rfl (by repeat (exact List.Mem.head _)) (by rfl) (by rfl)) rfl rfl rfl ?_
  refine AO.op (O.move rfl rfl) rfl rfl rfl ?_
  refine AO.op (O.add rfl rfl rfl (by exact wI64 (by omega))) rfl rfl rfl ?_
  (refine AO.callM1 (i := 2) rfl rfl Tryz.func95 rfl rfl rfl rfl rfl rfl (hSk _ _ (by omega) (by omega) (by omega) (by omega)) (by (dsimp only [List.set, List.cons_append, List.nil_append, List.take, List.drop]; done)) ?_)
  refine AO.op (O.not rfl rfl (by rfl)) rfl rfl rfl ?_
  refine AO.nil ?_
  refine AQ.thenN ?_
  refine AW.condF rfl ?_
  refine AW.skip ?_
  refine AQ.blockN ?_
  refine AQ.thenN ?_
  refine AW.region ?_
  refine AO.op (O.add rfl rfl rfl (by exact wI64 (by omega))) rfl rfl rfl ?_
  refine AO.op (O.move rfl rfl) rfl rfl rfl ?_
  refine AO.nil ?_
  refine AQ.loopKN _ _ _ (by omega) (⟨k + 1, u + (It.mk kk nn' bb ll).nodes, v + (It.mk kk nn' bb ll).enc.length, by omega, (by omega), (by omega), rfl, rfl, rfl⟩) (by repeat (first | exact envNil | refine envCons rfl ?_)) (by repeat (first | exact envNil | refine envCons rfl ?_)) (by repeat (first | exact subPnil | refine subPcons 1 rfl ?_))
 ·skip
  obtain rfl : k = l.length := by omega
  rw [List.take_length] at hu hv
  obtain rfl : u = it + ((1 + nodesL l : Nat) : Int) := by omega
  obtain rfl : v = sz + (((encL l).length + 1 : Nat) : Int) := by omega
  refine AW.exit ?_
  refine AQ.thenX ?_
  refine AQ.loopX ?_
  refine AQ.blockX rfl ?_
  refine AQ.thenN ?_
  refine AW.seq ?_
  refine AW.region ?_
  refine AO.op (O.fieldAddr rfl rfl) rfl rfl rfl ?_
  refine AO.op (O.load rfl rfl (by repeat (exact List.Mem.head _)) (by rfl)) rfl rfl rfl ?_
  refine AO.op (O.neq rfl rfl rfl (by exact bne_iff_ne.2 (by omega))) rfl rfl rfl ?_
  refine AO.op (O.move rfl rfl) rfl rfl rfl ?_
  refine AO.no rfl rfl rfl ?_
  refine AO.no rfl rfl rfl ?_
  refine AO.no rfl rfl rfl ?_
  refine AO.op (O.pickT rfl rfl rfl) rfl rfl rfl ?_
  refine AO.op (O.assign rfl rfl) rfl rfl rfl ?_
  refine AO.nil ?_
  refine AQ.thenN ?_
  refine AW.ret ?_
  refine AQ.ret1 rfl rfl ⟨_, by repeat (first | exact List.Sublist.slnil | refine List.Sublist.cons_cons _ ?_ | refine List.Sublist.cons _ ?_), List.Perm.refl _⟩ (⟨rfl, rfl⟩)
theorem chk_fn : ∀ (d : Nat) (x : It) (B : Nat) (lv : Int), x.ok d → 0 ≤ lv → lv + d ≤ 8 → ChkSp B x lv
 | 0, x, B, lv, h, _, _ => chk_leaf h lv
 | d + 1, .mk k n b l, B, lv, h, h1, h2 => by
  rcases h with h | ⟨rfl, rfl, rfl, h4, h5⟩
  ·exact chk_leaf h lv
  ·exact chk_arr ⟨h1, by omega⟩ h4 fun q hq => chk_fn d _ B (lv + 1) (h5 _ (getD_mem itN hq)) (by omega) (by omega)
theorem cvalid_fn (d : Nat) (x : It) (hx : x.ok d) (hd : d ≤ 8) (h1 : x.nodes < 200) (h2 : x.enc.length < 4000) : Sp Tryz.prog 77 [.agg x.cells] [] (Is (.val (.bool true))) := by
 obtain ⟨xs, hxs⟩ : ∃ xs, xs = x.cells := ⟨_, rfl⟩
 have hl : xs.length = 4 := by rw [hxs]; exact cells_len x
 have hS := chk_fn d x
 obtain ⟨k, n, b, l⟩ := x
 rw [It.cells]
 refine Sp.enter Tryz.func77 rfl _ Tryz.ntmps77 rfl (fun w0 R0 => ?_)
 refine AW.seq ?_
 refine AW.region ?_
 refine AO.opB (O.box rfl rfl rfl rfl rfl) rfl rfl rfl ?_
 intro B1
 refine AO.op (O.assign rfl rfl) rfl rfl rfl ?_
 refine AO.nil ?_
 refine AQ.thenN ?_
 refine AW.seq ?_
 refine AW.region ?_
 refine AO.opB (O.alloc rfl (by (dsimp only [zerosA, List.replicate, List.append, List.flatten, AV.cells, Value.cells, List.toList_toArray, List.map]; done)) (by rfl)) rfl rfl rfl ?_
 intro B2
 refine AO.nil ?_
 refine AQ.thenN ?_
 refine AW.seq ?_
 refine AW.region ?_
 refine AO.op (O.loadK rfl rfl (by repeat (first | exact List.Mem.head _ | refine List.Mem.tail _ ?_)) (by rfl) (by rfl)) rfl rfl rfl ?_
 (refine AO.callM1 (i := 0) rfl rfl Tryz.func95 rfl rfl rfl rfl rfl rfl (hS _ 0 hx (by omega) (by omega) 0 0 (by omega) (by omega) (by omega) (by omega)) (by (dsimp only [List.set, List.cons_append, List.nil_append, List.take, List.drop]; done)) ?_)
 refine AO.op (O.assign rfl rfl) rfl rfl rfl ?_
 refine AO.nil ?_
 refine AQ.thenN ?_
 refine AW.ret ?_
 refine AQ.ret1 rfl rfl ⟨_, List.nil_sublist _, .nil⟩ (⟨rfl, rfl⟩)
end Go.Proofs.YtoonnnifelnaiaaGreatDoor.By

namespace Go.Proofs.YtoonnnifelnaiaaGreatDoor.By
open Go.RowKit L A Dk
set_option linter.unusedVariables false
set_option maxRecDepth 20000
set_option linter.unusedSimpArgs false
attribute [local irreducible] AW AQ AO
theorem validN_fn : Sp Tryz.prog 77 [itA 1 2 [] 0 []] [] (Is (.val (.bool true))) := by
 have h := cvalid_fn 0 (.mk 1 2 [] []) ⟨rfl, .inl ⟨.inr rfl, by omega, by omega, rfl⟩⟩ (by omega) (by rw [node_mk]; simp [nodesL]) (by rw [enc_leaf]; simp)
 rw [It.cells, itsA] at h
 exact h
theorem validA_fn : Sp Tryz.prog 77 [itA 4 0 [] 1 (uintR 1)] [] (Is (.val (.bool true))) := by
 have hl : leafI (.mk 0 1 [] []) := ⟨rfl, .inl ⟨.inl rfl, by omega, by omega, rfl⟩⟩
 have h := cvalid_fn 1 (.mk 4 0 [] [.mk 0 1 [] []]) (.inr ⟨rfl, rfl, rfl, by simp, fun y hy => by obtain rfl := List.mem_singleton.1 hy; exact hl⟩) (by omega) (by simp [It.nodes, nodesL]) (by simp [It.enc, encL])
 simp only [It.cells, itsA, List.append_nil, List.length_cons, List.length_nil] at h
 exact h
theorem intN_fn : Sp Tryz.prog 37 [.val (.int .i64 (-3))] [] (Is (itA 1 2 [] 0 [])) := by
 refine Sp.enter Tryz.func37 rfl _ Tryz.ntmps37 rfl (fun w0 R0 => ?_)
 refine AW.seq ?_
 refine AW.region ?_
 refine AO.opB (O.alloc rfl (by (dsimp only [zerosA, List.replicate, List.append, List.flatten, AV.cells, Value.cells, List.toList_toArray, List.map]; done)) (by rfl)) rfl rfl rfl ?_
 intro B1
 refine AO.nil ?_
 refine AQ.thenN ?_
 refine AW.seq ?_
 refine AW.seq ?_
 refine AW.region ?_
 refine AO.op (O.move rfl rfl) rfl rfl rfl ?_
 refine AO.op (O.lss rfl rfl rfl (by exact bTrue (by omega))) rfl rfl rfl ?_
 refine AO.nil ?_
 refine AQ.thenN ?_
 refine AW.condT rfl ?_
 refine AW.seq ?_
 refine AW.region ?_
 refine AO.op (O.move rfl rfl) rfl rfl rfl ?_
 refine AO.op (O.sub rfl rfl rfl (by exact wI64 (by omega))) rfl rfl rfl ?_
 refine AO.op (O.conv rfl rfl (by exact wU64 (by omega))) rfl rfl rfl ?_
 refine AO.op (O.build rfl rfl rfl (by rfl)) rfl rfl rfl ?_
 (refine AO.store (i := 0) rfl rfl rfl rfl rfl rfl (by rfl) (by rfl) (by rfl) (by (dsimp only [List.set, List.cons_append, List.nil_append, List.take, List.drop]; done)) (by (dsimp only [List.set, List.cons_append, List.nil_append, List.take, List.drop]; done)) ?_)
 refine AO.nil ?_
 refine AQ.thenN ?_
 refine AW.ret ?_
 refine AQ.thenR ?_
 refine FnQ.coe (AQ.retCell rfl rfl (by repeat (exact List.Mem.head _)) (by (dsimp only [List.set, List.cons_append, List.nil_append, List.take, List.drop]; done)) (by rfl) ⟨_, List.nil_sublist _, .nil⟩ ⟨rfl, rfl⟩) (Coe.agg (by (repeat (first | exact CoeL.nil | refine CoeL.cons Coe.rfl ?_ | refine CoeL.cons Coe.nil ?_)); done)) (⟨rfl, rfl⟩)
theorem print_fn : Sp Tryz.prog 36 [itA 1 2 [] 0 []] [] (Is (.tup [.val (.string ⟨#[45, 51]⟩), .val (.int .i64 0)])) := by
 refine Sp.enter Tryz.func36 rfl _ Tryz.ntmps36 rfl (fun w0 R0 => ?_)
 refine AW.seq ?_
 refine AW.region ?_
 refine AO.opB (O.box rfl rfl rfl rfl rfl) rfl rfl rfl ?_
 intro B1
 refine AO.op (O.assign rfl rfl) rfl rfl rfl ?_
 refine AO.op (O.assign rfl rfl) rfl rfl rfl ?_
 refine AO.nil ?_
 refine AQ.thenN ?_
 refine AW.seq ?_
 refine AW.seq ?_
 refine AW.region ?_
 (refine AO.op (O.loadK rfl rfl (by repeat (exact List.Mem.head _)) (by (dsimp only [List.set, List.cons_append, List.nil_append, List.take, List.drop]; done)) (by rfl)) rfl rfl rfl ?_)
 refine AO.op (O.call rfl Tryz.func77 rfl rfl rfl (validN_fn)) rfl rfl rfl ?_
 refine AO.op (O.not rfl rfl (by rfl)) rfl rfl rfl ?_
 refine AO.nil ?_
 refine AQ.thenN ?_
 refine AW.condF rfl ?_
 refine AW.skip ?_
 refine AQ.thenN ?_
 refine AW.seq ?_
 refine AW.region ?_
 (refine AO.op (O.loadK rfl rfl (by repeat (exact List.Mem.head _)) (by (dsimp only [List.set, List.cons_append, List.nil_append, List.take, List.drop]; done)) (by rfl)) rfl rfl rfl ?_)
 refine AO.op (O.call rfl Tryz.func78 rfl rfl rfl (putN_fn)) rfl rfl rfl ?_
 refine AO.op (O.convS rfl rfl (by rfl)) rfl rfl rfl ?_
 refine AO.op (O.assign rfl rfl) rfl rfl rfl ?_
 refine AO.op (O.assign rfl rfl) rfl rfl rfl ?_
 refine AO.nil ?_
 refine AQ.thenN ?_
 refine AW.ret ?_
 refine AQ.ret2 rfl rfl rfl ⟨_, List.nil_sublist _, .nil⟩ (⟨rfl, rfl⟩)
theorem parse_fn : SpK GN Tryz.prog 38 [.val (.string ⟨#[91, 49, 93]⟩)] [] (Is (.tup [itA 4 0 [] 1 (uintR 1), .val (.int .i64 0)])) := by
 have q1 : ((⟨#[]⟩ : ByteArray).toList != (⟨#[]⟩ : ByteArray).toList) = false := by decide +kernel
 have q2 : ((strOf [91, 49, 93]).toList != (⟨#[91, 49, 93]⟩ : ByteArray).toList) = false := by decide +kernel
 refine SpK.enter Tryz.func38 rfl _ Tryz.ntmps38 rfl (fun w0 R0 hK => ?_)
 refine AW.seq ?_
 refine AW.region ?_
 refine AO.opB (O.alloc rfl (by (dsimp only [zerosA, List.replicate, List.append, List.flatten, AV.cells, Value.cells, List.toList_toArray, List.map]; done)) (by rfl)) rfl rfl rfl ?_
 intro B1
 refine AO.op (O.assign rfl rfl) rfl rfl rfl ?_
 refine AO.nil ?_
 refine AQ.thenN ?_
 refine AW.seq ?_
 refine AW.region ?_
 refine AO.op (O.move rfl rfl) rfl rfl rfl ?_
 refine AO.op (O.build rfl rfl rfl (by rfl)) rfl rfl rfl ?_
 refine AO.opB (O.alloc rfl (by (dsimp only [zerosA, List.replicate, List.append, List.flatten, AV.cells, Value.cells, List.toList_toArray, List.map]; done)) (by rfl)) rfl rfl rfl ?_
 intro B2
 (refine AO.store (i := 0) rfl rfl rfl rfl rfl rfl (by rfl) (by rfl) (by rfl) (by (dsimp only [List.set, List.cons_append, List.nil_append, List.take, List.drop]; done)) (by (dsimp only [List.set, List.cons_append, List.nil_append, List.take, List.drop]; done)) ?_)
 refine AO.nil ?_
 refine AQ.thenN ?_
 refine AW.seq ?_
 refine AW.region ?_
 (refine AO.callK1n (i := 0) hK notFoot_nil rfl rfl Tryz.func80 rfl rfl rfl rfl rfl rfl (fun hB => item0_fn _ hB) (by (dsimp only [List.set, List.cons_append, List.nil_append, List.take, List.drop]; done)) ?_)
 refine AO.opB (O.alloc rfl (by (dsimp only [zerosA, List.replicate, List.append, List.flatten, AV.cells, Value.cells, List.toList_toArray, List.map]; done)) (by rfl)) rfl rfl rfl ?_
 intro B3
 (refine AO.store (i := 0) rfl rfl rfl rfl rfl rfl (by rfl) (by rfl) (by rfl) (by (dsimp only [List.set, List.cons_append, List.nil_append, List.take, List.drop]; done)) (by (dsimp only [List.set, List.cons_append, List.nil_append, List.take, List.drop]; done)) ?_)
 refine AO.nil ?_
 refine AQ.thenN ?_
 refine AW.seq ?_
 refine AW.seq ?_
 refine AW.region ?_
 refine AO.op (O.fieldAddr rfl rfl) rfl rfl rfl ?_
 refine AO.op (O.load rfl rfl (by repeat (first | exact List.Mem.head _ | refine List.Mem.tail _ ?_)) (by rfl)) rfl rfl rfl ?_
 refine AO.op (O.move rfl rfl) rfl rfl rfl ?_
 refine AO.op (O.fieldAddr rfl rfl) rfl rfl rfl ?_
 refine AO.op (O.load rfl rfl (by repeat (first | exact List.Mem.head _ | refine List.Mem.tail _ ?_)) (by rfl)) rfl rfl rfl ?_
 refine AO.op (O.neqS rfl rfl rfl (by assumption)) rfl rfl rfl ?_
 refine AO.op (O.pickF rfl rfl rfl) rfl rfl rfl ?_
 refine AO.op (O.move rfl rfl) rfl rfl rfl ?_
 (refine AO.op (O.loadK rfl rfl (by repeat (exact List.Mem.head _)) (by (dsimp only [List.set, List.cons_append, List.nil_append, List.take, List.drop]; done)) (by rfl)) rfl rfl rfl ?_)
 (refine AO.op (O.callC rfl Tryz.func77 rfl rfl rfl (validA_fn) (by (repeat (first | exact CoeL.nil | refine CoeL.cons Coe.rfl ?_ | refine CoeL.cons Coe.nil ?_ | refine CoeL.cons (Coe.agg ?_) ?_ | refine CoeL.cons (Coe.ro ?_) ?_)); done)) rfl rfl rfl ?_)
 refine AO.op (O.not rfl rfl (by rfl)) rfl rfl rfl ?_
 refine AO.op (O.pickF rfl rfl rfl) rfl rfl rfl ?_
 refine AO.nil ?_
 refine AQ.thenN ?_
 refine AW.condF rfl ?_
 refine AW.skip ?_
 refine AQ.thenN ?_
 refine AW.seq ?_
 refine AW.seq ?_
 refine AW.region ?_
 (refine AO.op (O.loadK rfl rfl (by repeat (exact List.Mem.head _)) (by (dsimp only [List.set, List.cons_append, List.nil_append, List.take, List.drop]; done)) (by rfl)) rfl rfl rfl ?_)
 (refine AO.op (O.callC rfl Tryz.func78 rfl rfl rfl (putA_fn) (by (repeat (first | exact CoeL.nil | refine CoeL.cons Coe.rfl ?_ | refine CoeL.cons Coe.nil ?_ | refine CoeL.cons (Coe.agg ?_) ?_ | refine CoeL.cons (Coe.ro ?_) ?_)); done)) rfl rfl rfl ?_)
 refine AO.op (O.convS rfl rfl (by rfl)) rfl rfl rfl ?_
 refine AO.op (O.move rfl rfl) rfl rfl rfl ?_
 refine AO.op (O.neqS rfl rfl rfl (by assumption)) rfl rfl rfl ?_
 refine AO.nil ?_
 refine AQ.thenN ?_
 refine AW.condF rfl ?_
 refine AW.skip ?_
 refine AQ.thenN ?_
 refine AW.seq ?_
 refine AW.region ?_
 (refine AO.op (O.loadK rfl rfl (by repeat (exact List.Mem.head _)) (by (dsimp only [List.set, List.cons_append, List.nil_append, List.take, List.drop]; done)) (by rfl)) rfl rfl rfl ?_)
 (refine AO.store (i := 2) rfl rfl rfl rfl rfl rfl (by rfl) (by rfl) (by rfl) (by (dsimp only [List.set, List.cons_append, List.nil_append, List.take, List.drop]; done)) (by (dsimp only [List.set, List.cons_append, List.nil_append, List.take, List.drop]; done)) ?_)
 refine AO.op (O.assign rfl rfl) rfl rfl rfl ?_
 refine AO.nil ?_
 refine AQ.thenN ?_
 refine AW.ret ?_
 refine FnQ.coe (AQ.retCT rfl rfl rfl (by repeat (first | exact List.Mem.head _ | refine List.Mem.tail _ ?_)) (by (dsimp only [List.set, List.cons_append, List.nil_append, List.take, List.drop]; done)) (by rfl) ⟨_, List.nil_sublist _, .nil⟩ ⟨rfl, rfl⟩) (Coe.tup (by (repeat (first | exact CoeL.nil | refine CoeL.cons Coe.rfl ?_ | refine CoeL.cons Coe.nil ?_ | refine CoeL.cons (Coe.agg ?_) ?_ | refine CoeL.cons (Coe.ro ?_) ?_)); done)) (⟨rfl, rfl⟩)
theorem awakeT_fn : SpK GN Tryz.prog 8 [] [] (Is (.val (.bool true))) := by
 have q1 : ((⟨#[45, 51]⟩ : ByteArray).toList == (⟨#[45, 51]⟩ : ByteArray).toList) = true := by decide +kernel
 refine SpK.enter Tryz.func8 rfl _ Tryz.ntmps8 rfl (fun w0 R0 hK => ?_)
 refine AW.seq ?_
 refine AW.region ?_
 refine AO.op (O.assign rfl rfl) rfl rfl rfl ?_
 refine AO.nil ?_
 refine AQ.thenN ?_
 refine AW.seq ?_
 refine AW.region ?_
 refine AO.op (O.call rfl Tryz.func37 rfl rfl rfl (intN_fn)) rfl rfl rfl ?_
 refine AO.op (O.call rfl Tryz.func36 rfl rfl rfl (print_fn)) rfl rfl rfl ?_
 refine AO.op (O.move rfl rfl) rfl rfl rfl ?_
 refine AO.op (O.extract rfl rfl rfl) rfl rfl rfl ?_
 refine AO.op (O.extract rfl rfl rfl) rfl rfl rfl ?_
 refine AO.op (O.assign rfl rfl) rfl rfl rfl ?_
 refine AO.op (O.assign rfl rfl) rfl rfl rfl ?_
 refine AO.nil ?_
 refine AQ.thenN ?_
 refine AW.seq ?_
 refine AW.region ?_
 refine AO.callK hK notFoot_nil rfl rfl Tryz.func38 rfl rfl rfl rfl rfl (parse_fn) ?_
 refine AO.op (O.move rfl rfl) rfl rfl rfl ?_
 refine AO.op (O.extract rfl rfl rfl) rfl rfl rfl ?_
 refine AO.op (O.extract rfl rfl rfl) rfl rfl rfl ?_
 refine AO.opB (O.alloc rfl (by (dsimp only [zerosA, List.replicate, List.append, List.flatten, AV.cells, Value.cells, List.toList_toArray, List.map]; done)) (by rfl)) rfl rfl rfl ?_
 intro B1
 (refine AO.store (i := 0) rfl rfl rfl rfl rfl rfl (by rfl) (by rfl) (by rfl) (by (dsimp only [List.set, List.cons_append, List.nil_append, List.take, List.drop]; done)) (by (dsimp only [List.set, List.cons_append, List.nil_append, List.take, List.drop]; done)) ?_)
 refine AO.op (O.assign rfl rfl) rfl rfl rfl ?_
 refine AO.nil ?_
 refine AQ.thenN ?_
 refine AW.seq ?_
 refine AW.region ?_
 refine AO.op (O.move rfl rfl) rfl rfl rfl ?_
 refine AO.op (O.eqlS rfl rfl rfl (by assumption)) rfl rfl rfl ?_
 refine AO.op (O.move rfl rfl) rfl rfl rfl ?_
 refine AO.op (O.move rfl rfl) rfl rfl rfl ?_
 refine AO.op (O.eql rfl rfl rfl (by exact beq_iff_eq.2 (by omega))) rfl rfl rfl ?_
 refine AO.op (O.pickT rfl rfl rfl) rfl rfl rfl ?_
 refine AO.op (O.move rfl rfl) rfl rfl rfl ?_
 refine AO.op (O.move rfl rfl) rfl rfl rfl ?_
 refine AO.op (O.eql rfl rfl rfl (by exact beq_iff_eq.2 (by omega))) rfl rfl rfl ?_
 refine AO.op (O.pickT rfl rfl rfl) rfl rfl rfl ?_
 refine AO.op (O.move rfl rfl) rfl rfl rfl ?_
 refine AO.op (O.fieldAddr rfl rfl) rfl rfl rfl ?_
 refine AO.op (O.load rfl rfl (by repeat (exact List.Mem.head _)) (by rfl)) rfl rfl rfl ?_
 refine AO.op (O.lenR rfl rfl) rfl rfl rfl ?_
 refine AO.op (O.eql rfl rfl rfl (by exact beq_iff_eq.2 (by omega))) rfl rfl rfl ?_
 refine AO.op (O.pickT rfl rfl rfl) rfl rfl rfl ?_
 refine AO.op (O.assign rfl rfl) rfl rfl rfl ?_
 refine AO.nil ?_
 refine AQ.thenN ?_
 refine AW.ret ?_
 refine AQ.ret1 rfl rfl ⟨_, List.nil_sublist _, .nil⟩ (⟨rfl, rfl⟩)
end Go.Proofs.YtoonnnifelnaiaaGreatDoor.By

namespace Go.Proofs.YtoonnnifelnaiaaGreatDoor.Dk
open Go.RowKit L A
set_option linter.unusedVariables false
set_option maxRecDepth 20000
set_option linter.unusedSimpArgs false
attribute [local irreducible] AW AQ AO

theorem left_fn (b : Nat) (l : List Int) (k : Nat) :
  Sp Tryz.prog 12 [ptr b] [deck b l k] (IsM (.val (.bool (decide (k < l.length)))) (deck b l k)) := by
 refine Sp.enter Tryz.func12 rfl _ Tryz.ntmps12 rfl (fun w0 R0 => ?_)
 refine AW.seq ?_
 refine AW.region ?_
 refine AO.op (O.assign rfl rfl) rfl rfl rfl ?_
 refine AO.nil ?_
 refine AQ.thenN ?_
 refine AW.seq ?_
 refine AW.regionD 11 (by kernel_rfl) (by kernel_rfl) ?_
 simp only [List.take_succ_cons, List.take_zero, List.drop_succ_cons, List.drop_zero]
 refine FA.op (O.move rfl rfl) rfl rfl rfl rfl ?_
 first | (refine FA.op (O.nilCheck rfl rfl) rfl rfl rfl rfl ?_) | (refine FA.op (O.nilCheckR rfl rfl) rfl rfl rfl rfl ?_)
 first | (refine FA.op (O.fieldAddrR rfl rfl) rfl rfl rfl rfl ?_) | (refine FA.op (O.fieldAddr rfl rfl) rfl rfl rfl rfl ?_)
 first | (refine FA.op (O.loadR rfl rfl (by first | rfl | assumption)) rfl rfl rfl rfl ?_) | (refine FA.op (O.load rfl rfl (by repeat (first | exact List.Mem.head _ | refine List.Mem.tail _ ?_)) (by first | rfl | assumption)) rfl rfl rfl rfl ?_)
 refine FA.op (O.move rfl rfl) rfl rfl rfl rfl ?_
 first | (refine FA.op (O.nilCheck rfl rfl) rfl rfl rfl rfl ?_) | (refine FA.op (O.nilCheckR rfl rfl) rfl rfl rfl rfl ?_)
 first | (refine FA.op (O.fieldAddrR rfl rfl) rfl rfl rfl rfl ?_) | (refine FA.op (O.fieldAddr rfl rfl) rfl rfl rfl rfl ?_)
 first | (refine FA.op (O.loadR rfl rfl (by first | rfl | assumption)) rfl rfl rfl rfl ?_) | (refine FA.op (O.load rfl rfl (by repeat (first | exact List.Mem.head _ | refine List.Mem.tail _ ?_)) (by first | rfl | assumption)) rfl rfl rfl rfl ?_)
 first | (refine FA.op (O.lenR rfl rfl) rfl rfl rfl rfl ?_) | (refine FA.op (O.lenV rfl rfl) rfl rfl rfl rfl ?_) | (refine FA.op (O.lenRow rfl rfl (by repeat (first | exact List.Mem.head _ | refine List.Mem.tail _ ?_))) rfl rfl rfl rfl ?_) | (refine FA.op (O.lenS rfl rfl) rfl rfl rfl rfl ?_)
 refine FA.op (O.lss rfl rfl rfl (by first | exact bTrue (by omega) | exact bFalse (by omega) | assumption | rfl)) rfl rfl rfl rfl ?_
 refine FA.op (O.assign rfl rfl) rfl rfl rfl rfl ?_
 refine FA.nil ?_
 simp only [chosen, List.nil_append, List.cons_append, List.append_nil]
 refine AO.nil ?_
 refine AQ.thenN ?_
 refine AW.ret ?_
 have e1 : decide ((k : Int) < (l.length : Int)) = decide (k < l.length) := by simp
 refine AQ.ret1 rfl rfl ⟨_, by repeat (first | exact List.Sublist.slnil | refine List.Sublist.cons_cons _ ?_ | refine List.Sublist.cons _ ?_), List.Perm.refl _⟩ (⟨congrArg (fun z => AV.val (.bool z)) e1, rfl⟩)
end Go.Proofs.YtoonnnifelnaiaaGreatDoor.Dk

namespace Go.Proofs.YtoonnnifelnaiaaGreatDoor.By
open Go.RowKit L A Dk
set_option linter.unusedVariables false
set_option maxRecDepth 20000
set_option linter.unusedSimpArgs false
attribute [local irreducible] AW AQ AO
theorem adv_in {l : List Int} {k : Nat} (h : k < l.length) : adv l k = k + 1 := if_pos h
theorem adv_ge (l : List Int) (k : Nat) : k ≤ adv l k := by unfold adv; split <;> omega
theorem fewT_fn (l : List Int) : Sp Tryz.prog 7 [roI l] [] (Is (.val (.bool (decide ((l.length : Int) ≤ 300))))) := by
 refine Sp.enter Tryz.func7 rfl _ Tryz.ntmps7 rfl (fun w0 R0 => ?_)
 refine AW.seq ?_
 refine AW.region ?_
 refine AO.op (O.assign rfl rfl) rfl rfl rfl ?_
 refine AO.nil ?_
 refine AQ.thenN ?_
 refine AW.seq ?_
 refine AW.region ?_
 refine AO.op (O.move rfl rfl) rfl rfl rfl ?_
 first | (refine AO.op (O.lenR rfl rfl) rfl rfl rfl ?_) | (refine AO.op (O.lenV rfl rfl) rfl rfl rfl ?_) | (refine AO.op (O.lenRow rfl rfl (by repeat (first | exact List.Mem.head _ | refine List.Mem.tail _ ?_))) rfl rfl rfl ?_) | (refine AO.op (O.lenS rfl rfl) rfl rfl rfl ?_)
 refine AO.op (O.leq rfl rfl rfl (by first | exact bTrue (by omega) | exact bFalse (by omega) | assumption | rfl)) rfl rfl rfl ?_
 refine AO.op (O.assign rfl rfl) rfl rfl rfl ?_
 refine AO.nil ?_
 refine AQ.thenN ?_
 refine AW.ret ?_
 refine AQ.ret1 rfl rfl ⟨_, List.nil_sublist _, .nil⟩ (⟨rfl, rfl⟩)
end Go.Proofs.YtoonnnifelnaiaaGreatDoor.By

namespace Go.Proofs.YtoonnnifelnaiaaGreatDoor.By
open Go.RowKit L A
set_option linter.unusedVariables false
set_option maxRecDepth 20000
set_option linter.unusedSimpArgs false
attribute [local irreducible] AW AQ AO
end Go.Proofs.YtoonnnifelnaiaaGreatDoor.By
