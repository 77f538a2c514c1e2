/-
  Texts laid together (part 4): what the statement's walk and plain law need. No condition.
-/
import Derived.Test.YtoonnnifelnaiaaGreatDoorZ3
namespace Go.Proofs.YtoonnnifelnaiaaGreatDoor.By
open Go.RowKit L A Dk
set_option linter.unusedVariables false
set_option maxRecDepth 20000
set_option linter.unusedSimpArgs false
attribute [local irreducible] AW AQ AO
theorem sclone_fn (l : List UInt8) (hl : l.length ≤ 1000000) : Sp Tryz.prog 90 [roB l] [] (Is (roB l)) := by
 refine Sp.enter Tryz.func90 rfl _ Tryz.ntmps90 rfl (fun w0 R0 => ?_)
 refine AW.seq ?_
 refine AW.region ?_
 refine AO.op (O.assign rfl rfl) rfl rfl rfl ?_
 refine AO.nil ?_
 refine AQ.thenN ?_
 refine AW.seq ?_
 refine AW.seq ?_
 refine AW.region ?_
 refine AO.op (O.move rfl rfl) rfl rfl rfl ?_
 refine AO.opN (O.eqlNil rfl rfl rfl) rfl rfl rfl ?_
 rintro _ _ ⟨c1, rfl, rfl, hnil1⟩
 simp only [List.cons_append, List.nil_append]
 refine AO.nil ?_
 refine AQ.thenN ?_
 refine AW.split rfl (fun h => ?_) (fun h => ?_)
 ·skip
  obtain rfl : l = [] := List.eq_nil_of_length_eq_zero (hnil1 (by simp [h]))
  refine AW.seq ?_
  refine AW.region ?_
  refine AO.op (O.assign rfl rfl) rfl rfl rfl ?_
  refine AO.nil ?_
  refine AQ.thenN ?_
  refine AW.ret ?_
  refine AQ.thenR ?_
  refine AQ.g ?_
  refine G.nilRo 2 rfl ?_
  refine AQ.u ?_
  refine AQ.ret1 rfl rfl ⟨_, List.nil_sublist _, .nil⟩ (⟨rfl, rfl⟩)
 ·skip
  refine AW.skip ?_
  refine AQ.thenN ?_
  refine AW.seq ?_
  refine AW.region ?_
  refine AO.opRow (O.buildSlice0 rfl) rfl rfl rfl ?_
  intro V2 hV2
  refine AO.op (O.move rfl rfl) rfl rfl rfl ?_
  (refine AO.append' (i := 0) rfl rfl rfl rfl (by rfl) (by rfl) rfl rfl rfl (by exact SrcA.ro TyD.ax (by (simp; done)) (Nat.le_of_ble_eq_true rfl)) (by (simp [AV.cells, AV.one, *]; done)) (by (unfold maxLen; omega)) (by omega) (by (dsimp only [List.set, List.cons_append, List.nil_append, List.take, List.drop]; done)) (fun _ => by (dsimp only [List.set]; done)) ?_)
  intro V3 hV3
  refine AO.op (O.assign rfl rfl) rfl rfl rfl ?_
  refine AO.nil ?_
  refine AQ.thenN ?_
  refine AW.ret ?_
  refine AQ.g ?_
  (refine G.freezeRow 0 rfl [2] (by (repeat (first | exact frNil | refine frCons rfl ?_)); done) ?_)
  refine AQ.u ?_
  try dsimp only [List.map, List.eraseIdx, List.cons_append, List.nil_append]
  refine AQ.ret1 rfl rfl ⟨_, List.nil_sublist _, .nil⟩ (⟨by simp [roB], rfl⟩)
theorem nokey_fn : Sp Tryz.prog 66 [.val (.int .i64 11)] [] (Is (.val (.bool false))) := by
 have hin : Sp Tryz.prog 88 [.val (.int .i64 11)] [] (Is (.val (.bool true))) := by
  refine Sp.enter Tryz.func88 rfl _ Tryz.ntmps88 rfl (fun w0 R0 => ?_)
  refine AW.seq ?_
  refine AW.region ?_
  refine AO.op (O.assign rfl rfl) rfl rfl rfl ?_
  refine AO.nil ?_
  refine AQ.thenN ?_
  refine AW.seq ?_
  refine AW.region ?_
  refine AO.op (O.move rfl rfl) rfl rfl rfl ?_
  refine AO.op (O.geq rfl rfl rfl (by exact bTrue (by omega))) rfl rfl rfl ?_
  refine AO.op (O.move rfl rfl) rfl rfl rfl ?_
  refine AO.op (O.move rfl rfl) rfl rfl rfl ?_
  refine AO.op (O.leq rfl rfl rfl (by exact bTrue (by omega))) rfl rfl rfl ?_
  refine AO.op (O.pickT rfl rfl rfl) rfl rfl rfl ?_
  refine AO.op (O.assign rfl rfl) rfl rfl rfl ?_
  refine AO.nil ?_
  refine AQ.thenN ?_
  refine AW.ret ?_
  refine AQ.ret1 rfl rfl ⟨_, List.nil_sublist _, .nil⟩ (⟨rfl, rfl⟩)
 refine Sp.enter Tryz.func66 rfl _ Tryz.ntmps66 rfl (fun w0 R0 => ?_)
 refine AW.seq ?_
 refine AW.region ?_
 refine AO.op (O.assign rfl rfl) rfl rfl rfl ?_
 refine AO.nil ?_
 refine AQ.thenN ?_
 refine AW.seq ?_
 refine AW.region ?_
 refine AO.op (O.move rfl rfl) rfl rfl rfl ?_
 refine AO.op (O.call rfl Tryz.func88 rfl rfl rfl (hin)) rfl rfl rfl ?_
 refine AO.op (O.move rfl rfl) rfl rfl rfl ?_
 refine AO.op (O.move rfl rfl) rfl rfl rfl ?_
 refine AO.op (O.and_ rfl rfl rfl rfl) rfl rfl rfl ?_
 refine AO.op (O.eql rfl rfl rfl (by rfl)) rfl rfl rfl ?_
 refine AO.op (O.pickT rfl rfl rfl) rfl rfl rfl ?_
 refine AO.op (O.assign rfl rfl) rfl rfl rfl ?_
 refine AO.nil ?_
 refine AQ.thenN ?_
 refine AW.ret ?_
 refine AQ.ret1 rfl rfl ⟨_, List.nil_sublist _, .nil⟩ (⟨congrArg (fun z => AV.val (.bool z)) (by decide), rfl⟩)
theorem count1 (c : UInt8) (h : c ≠ 47) (W : World) : (Extern.BytealgCount.count #[.string ⟨#[c]⟩, .int .u8 47]).run Tryz.prog W = .ok (.int .i64 0) W := by
 rw [Lib.run_countString]
 have e : Lib.countByte (⟨#[c]⟩ : ByteArray).data.toList ((47 : Int).toNat.toUInt8) = 0 := by
  show Lib.countByte [c] 47 = 0
  unfold Lib.countByte
  simp [h]
 rw [e]
 rfl
theorem count_fn (c : UInt8) (h : c ≠ 47) : Sp Tryz.prog 127 [.val (.string ⟨#[c]⟩), .val (.string ⟨#[47]⟩)] [] (Is (.val (.int .i64 0))) := by
 have hs47 : (⟨#[47]⟩ : ByteArray).toList[Int.toNat 0]? = some 47 := by decide +kernel
 refine Sp.enter Tryz.func127 rfl _ Tryz.ntmps127 rfl (fun w0 R0 => ?_)
 refine AW.seq ?_
 refine AW.region ?_
 refine AO.op (O.assign rfl rfl) rfl rfl rfl ?_
 refine AO.nil ?_
 refine AQ.thenN ?_
 refine AW.seq ?_
 refine AW.seq ?_
 refine AW.region ?_
 refine AO.op (O.move rfl rfl) rfl rfl rfl ?_
 refine AO.op (O.lenS rfl rfl) rfl rfl rfl ?_
 refine AO.op (O.eql rfl rfl rfl (by rfl)) rfl rfl rfl ?_
 refine AO.nil ?_
 refine AQ.thenN ?_
 refine AW.condF rfl ?_
 refine AW.skip ?_
 refine AQ.thenN ?_
 refine AW.seq ?_
 refine AW.seq ?_
 refine AW.region ?_
 refine AO.op (O.move rfl rfl) rfl rfl rfl ?_
 refine AO.op (O.lenS rfl rfl) rfl rfl rfl ?_
 refine AO.op (O.eql rfl rfl rfl (by rfl)) rfl rfl rfl ?_
 refine AO.nil ?_
 refine AQ.thenN ?_
 refine AW.condT rfl ?_
 refine AW.seq ?_
 refine AW.region ?_
 refine AO.op (O.move rfl rfl) rfl rfl rfl ?_
 refine AO.op (O.move rfl rfl) rfl rfl rfl ?_
 refine AO.op (O.indexS rfl rfl rfl ⟨by omega, by assumption⟩) rfl rfl rfl ?_
 refine AO.op (O.ext rfl Tryz.func158 rfl rfl (by kernel_rfl) (by kernel_rfl) rfl (by rfl) (count1 c h)) rfl rfl rfl ?_
 refine AO.op (O.assign rfl rfl) rfl rfl rfl ?_
 refine AO.nil ?_
 refine AQ.thenN ?_
 refine AW.ret ?_
 refine AQ.thenR ?_
 refine AQ.ret1 rfl rfl ⟨_, List.nil_sublist _, .nil⟩ (⟨rfl, rfl⟩)
abbrev sC (c : UInt8) : ByteArray := ⟨#[c]⟩
theorem gensplit_fn (c : UInt8) (h : c ≠ 47) : Sp Tryz.prog 109 [.val (.string (sC c)), .val (.string ⟨#[47]⟩), .val (.int .i64 0), .val (.int .i64 (-1))] [] (Is (.ro false 1 [.val (.string (sC c))])) := by
 have q2 : ((⟨#[47]⟩ : ByteArray).toList == (⟨#[]⟩ : ByteArray).toList) = false := by decide +kernel
 refine Sp.enter Tryz.func109 rfl _ Tryz.ntmps109 rfl (fun w0 R0 => ?_)
 refine AW.seq ?_
 refine AW.region ?_
 refine AO.op (O.assign rfl rfl) rfl rfl rfl ?_
 refine AO.nil ?_
 refine AQ.thenN ?_
 refine AW.seq ?_
 refine AW.seq ?_
 refine AW.region ?_
 refine AO.op (O.move rfl rfl) rfl rfl rfl ?_
 refine AO.op (O.eql rfl rfl rfl (by exact beq_eq_false_iff_ne.2 (by omega))) rfl rfl rfl ?_
 refine AO.nil ?_
 refine AQ.thenN ?_
 refine AW.condF rfl ?_
 refine AW.skip ?_
 refine AQ.thenN ?_
 refine AW.seq ?_
 refine AW.seq ?_
 refine AW.region ?_
 refine AO.op (O.move rfl rfl) rfl rfl rfl ?_
 refine AO.op (O.eqlS rfl rfl rfl (by assumption)) rfl rfl rfl ?_
 refine AO.nil ?_
 refine AQ.thenN ?_
 refine AW.condF rfl ?_
 refine AW.skip ?_
 refine AQ.thenN ?_
 refine AW.seq ?_
 refine AW.seq ?_
 refine AW.region ?_
 refine AO.op (O.move rfl rfl) rfl rfl rfl ?_
 refine AO.op (O.lss rfl rfl rfl (by exact bTrue (by omega))) rfl rfl rfl ?_
 refine AO.nil ?_
 refine AQ.thenN ?_
 refine AW.condT rfl ?_
 refine AW.region ?_
 refine AO.op (O.move rfl rfl) rfl rfl rfl ?_
 refine AO.op (O.move rfl rfl) rfl rfl rfl ?_
 refine AO.op (O.call rfl Tryz.func127 rfl rfl rfl (count_fn c h)) rfl rfl rfl ?_
 refine AO.op (O.add rfl rfl rfl (by exact wI64 (by omega))) rfl rfl rfl ?_
 refine AO.op (O.assign rfl rfl) rfl rfl rfl ?_
 refine AO.nil ?_
 refine AQ.thenN ?_
 refine AW.seq ?_
 refine AW.region ?_
 refine AO.op (O.move rfl rfl) rfl rfl rfl ?_
 refine AO.op (O.move rfl rfl) rfl rfl rfl ?_
 refine AO.op (O.lenS rfl rfl) rfl rfl rfl ?_
 refine AO.op (O.add rfl rfl rfl (by rfl)) rfl rfl rfl ?_
 refine AO.op (O.minI rfl rfl rfl rfl) rfl rfl rfl ?_
 refine AO.op (O.assign rfl rfl) rfl rfl rfl ?_
 refine AO.nil ?_
 refine AQ.thenN ?_
 refine AW.seq ?_
 refine AW.region ?_
 refine AO.op (O.move rfl rfl) rfl rfl rfl ?_
 refine AO.opB (O.makeSlice rfl rfl rfl (by rfl) (by rfl) (by decide) (by decide) (by rfl)) rfl rfl rfl ?_
 intro B1
 refine AO.op (O.assign rfl rfl) rfl rfl rfl ?_
 refine AO.nil ?_
 refine AQ.thenN ?_
 refine AW.seq ?_
 refine AW.region ?_
 refine AO.op (O.move rfl rfl) rfl rfl rfl ?_
 refine AO.op (O.sub rfl rfl rfl (by rfl)) rfl rfl rfl ?_
 refine AO.op (O.assign rfl rfl) rfl rfl rfl ?_
 refine AO.nil ?_
 refine AQ.thenN ?_
 refine AW.seq ?_
 refine AW.region ?_
 refine AO.op (O.assign rfl rfl) rfl rfl rfl ?_
 refine AO.nil ?_
 refine AQ.thenN ?_
 refine AW.seq ?_
 refine AW.block ?_
 refine AW.loopK [(1, _), (2, _), (3, _), (9, _)] (fun nn E H => ∃ (q : Nat), (q = 0) ∧ nn = 0 ∧ E = [(0, .val (.string (sC c))), (10, .val (.int .i64 0))] ∧ H = [.blk B1 9 1 [.val (.string ⟨#[]⟩)]]) _ (⟨0, rfl, rfl, rfl, rfl⟩) (by repeat (first | exact envNil | refine envCons rfl ?_)) (by repeat (first | exact envNil | refine envCons rfl ?_)) (by repeat (first | exact subPnil | refine subPcons 0 rfl ?_)) ?_
 rintro nn E H ⟨q, hq0, rfl, rfl, rfl⟩
 dsimp only [List.cons_append, List.nil_append]
 refine AW.seq ?_
 refine AW.seq ?_
 refine AW.region ?_
 refine AO.op (O.move rfl rfl) rfl rfl rfl ?_
 refine AO.op (O.move rfl rfl) rfl rfl rfl ?_
 refine AO.op (O.lss rfl rfl rfl (by rfl)) rfl rfl rfl ?_
 refine AO.nil ?_
 refine AQ.thenN ?_
 refine AW.condF rfl ?_
 refine AW.exit ?_
 refine AQ.thenX ?_
 refine AQ.loopX ?_
 refine AQ.blockX rfl ?_
 refine AQ.thenN ?_
 refine AW.seq ?_
 refine AW.region ?_
 refine AO.op (O.move rfl rfl) rfl rfl rfl ?_
 refine AO.op (O.move rfl rfl) rfl rfl rfl ?_
 refine AO.op (O.move rfl rfl) rfl rfl rfl ?_
 refine AO.op (O.idxV rfl rfl rfl ⟨(by omega), (by omega)⟩) rfl rfl rfl ?_
 (refine AO.store (i := 0) rfl rfl rfl rfl rfl rfl (by rfl) (by rfl) (by rfl) (by (dsimp only [List.set, List.cons_append, List.nil_append, List.take, List.drop]; done)) (by (dsimp only [List.set, List.cons_append, List.nil_append, List.take, List.drop]; done)) ?_)
 refine AO.nil ?_
 refine AQ.thenN ?_
 refine AW.seq ?_
 refine AW.region ?_
 refine AO.op (O.move rfl rfl) rfl rfl rfl ?_
 refine AO.op (O.move rfl rfl) rfl rfl rfl ?_
 refine AO.op (O.add rfl rfl rfl (by exact wI64 (by omega))) rfl rfl rfl ?_
 refine AO.op (O.sliceV rfl rfl rfl rfl ⟨by omega, by omega, by omega⟩ (by omega)) rfl rfl rfl ?_
 refine AO.op (O.assign rfl rfl) rfl rfl rfl ?_
 refine AO.nil ?_
 refine AQ.thenN ?_
 refine AW.ret ?_
 refine AQ.g ?_
 (refine G.freezeSl 0 8 rfl rfl ⟨Nat.le_refl _, by unfold maxLen; omega⟩ ?_; refine G.unfull 8 rfl ?_)
 refine AQ.u ?_
 try dsimp only [List.map, List.eraseIdx, List.cons_append, List.nil_append]
 refine AQ.ret1 rfl rfl ⟨_, List.nil_sublist _, .nil⟩ (⟨rfl, rfl⟩)
theorem ssplit_fn (c : UInt8) (h : c ≠ 47) : Sp Tryz.prog 86 [.val (.string (sC c)), .val (.string ⟨#[47]⟩)] [] (Is (.ro false 1 [.val (.string (sC c))])) := by
 refine Sp.enter Tryz.func86 rfl _ Tryz.ntmps86 rfl (fun w0 R0 => ?_)
 refine AW.seq ?_
 refine AW.region ?_
 refine AO.op (O.assign rfl rfl) rfl rfl rfl ?_
 refine AO.nil ?_
 refine AQ.thenN ?_
 refine AW.seq ?_
 refine AW.region ?_
 refine AO.op (O.move rfl rfl) rfl rfl rfl ?_
 refine AO.op (O.move rfl rfl) rfl rfl rfl ?_
 refine AO.op (O.call rfl Tryz.func109 rfl rfl rfl (gensplit_fn c h)) rfl rfl rfl ?_
 refine AO.op (O.assign rfl rfl) rfl rfl rfl ?_
 refine AO.nil ?_
 refine AQ.thenN ?_
 refine AW.ret ?_
 refine AQ.ret1 rfl rfl ⟨_, List.nil_sublist _, .nil⟩ (⟨rfl, rfl⟩)
theorem oplain_fn (c : UInt8) (h : 97 ≤ c.toNat ∧ c.toNat ≤ 122) : Sp Tryz.prog 110 [.val (.int .u8 (c.toNat : Int))] [] (Is (.val (.bool true))) := by
 have e : (decide (97 ≤ (c.toNat : Int)) && decide ((c.toNat : Int) ≤ 122)) = true := by simp; omega
 refine Sp.enter Tryz.func110 rfl _ Tryz.ntmps110 rfl (fun w0 R0 => ?_)
 refine AW.seq ?_
 refine AW.region ?_
 refine AO.op (O.assign rfl rfl) rfl rfl rfl ?_
 refine AO.nil ?_
 refine AQ.thenN ?_
 refine AW.seq ?_
 refine AW.region ?_
 refine AO.op (O.move rfl rfl) rfl rfl rfl ?_
 refine AO.op (O.geq rfl rfl rfl (by exact bTrue (by omega))) rfl rfl rfl ?_
 refine AO.op (O.move rfl rfl) rfl rfl rfl ?_
 refine AO.opG rfl rfl rfl (fun hp => O.move rfl rfl) ?_
 refine AO.opG rfl rfl rfl (fun hp => OpW.force 6 rfl (by exact hp) (O.leq rfl rfl rfl (by exact bTrue (by omega)))) ?_
 refine AO.op (O.pickAnd rfl rfl rfl rfl (fun h => by exact h)) rfl rfl rfl ?_
 refine AO.op (O.move rfl rfl) rfl rfl rfl ?_
 refine AO.opG rfl rfl rfl (fun hp => O.move rfl rfl) ?_
 refine AO.opG rfl rfl rfl (fun hp => OpW.force 10 rfl (by exact hp) (O.geq rfl rfl rfl (by exact bTrue (by omega)))) ?_
 refine AO.opG rfl rfl rfl (fun hp => OpW.force 11 rfl (by exact hp) (O.move rfl rfl)) ?_
 refine AO.opG rfl rfl rfl (fun hp => O.move rfl rfl) ?_
 refine AO.opG rfl rfl rfl (fun hp => OpW.force 13 rfl (by exact hp) (O.leq rfl rfl rfl (by exact bFalse (by omega)))) ?_
 refine AO.opG rfl rfl rfl (fun hp => OpW.force 12 rfl (by exact hp) (O.pickAnd rfl rfl rfl rfl (fun h => by simp_all))) ?_
 refine AO.op (O.pickOr rfl rfl rfl rfl (fun h => by exact congrArg (fun b => !b) h)) rfl rfl rfl ?_
 refine AO.op (O.move rfl rfl) rfl rfl rfl ?_
 refine AO.opG rfl rfl rfl (fun hp => O.move rfl rfl) ?_
 refine AO.opG rfl rfl rfl (fun hp => OpW.force 18 rfl (by exact hp) (O.geq rfl rfl rfl (by exact bTrue (by omega)))) ?_
 refine AO.opG rfl rfl rfl (fun hp => OpW.force 19 rfl (by exact hp) (O.move rfl rfl)) ?_
 refine AO.opG rfl rfl rfl (fun hp => O.move rfl rfl) ?_
 refine AO.opG rfl rfl rfl (fun hp => OpW.force 21 rfl (by exact hp) (O.leq rfl rfl rfl (by exact bFalse (by omega)))) ?_
 refine AO.opG rfl rfl rfl (fun hp => OpW.force 20 rfl (by exact hp) (O.pickAnd rfl rfl rfl rfl (fun h => by simp_all))) ?_
 refine AO.op (O.pickOr rfl rfl rfl rfl (fun h => by exact congrArg (fun b => !b) h)) rfl rfl rfl ?_
 refine AO.op (O.move rfl rfl) rfl rfl rfl ?_
 refine AO.opG rfl rfl rfl (fun hp => O.move rfl rfl) ?_
 refine AO.no rfl rfl rfl ?_
 refine AO.no rfl rfl rfl ?_
 refine AO.op (O.pickT rfl rfl rfl) rfl rfl rfl ?_
 refine AO.op (O.assign rfl rfl) rfl rfl rfl ?_
 refine AO.nil ?_
 refine AQ.thenN ?_
 refine AW.ret ?_
 refine AQ.ret1 rfl rfl ⟨_, List.nil_sublist _, .nil⟩ (⟨rfl, rfl⟩)
theorem seg_fn (c : UInt8) (h : 97 ≤ c.toNat ∧ c.toNat ≤ 122) : Sp Tryz.prog 87 [.val (.string (sC c))] [] (Is (.tup [roB [c], .val (.bool true)])) := by
 have hs : (sC c).toList[Int.toNat 0]? = some c := by rw [ByteArray.toList_eq]; rfl
 have hsz : (sC c).size = 1 := rfl
 refine Sp.enter Tryz.func87 rfl _ Tryz.ntmps87 rfl (fun w0 R0 => ?_)
 refine AW.seq ?_
 refine AW.region ?_
 refine AO.op (O.assign rfl rfl) rfl rfl rfl ?_
 refine AO.op (O.assign rfl rfl) rfl rfl rfl ?_
 refine AO.nil ?_
 refine AQ.thenN ?_
 refine AW.seq ?_
 refine AW.region ?_
 refine AO.op (O.assign rfl rfl) rfl rfl rfl ?_
 refine AO.nil ?_
 refine AQ.thenN ?_
 refine AW.seq ?_
 refine AW.seq ?_
 refine AW.region ?_
 refine AO.op (O.assign rfl rfl) rfl rfl rfl ?_
 refine AO.nil ?_
 refine AQ.thenN ?_
 refine AW.block ?_
 refine AW.g ?_
 refine G.nilRow 5 1 ?_
 refine AW.u ?_
 refine AW.loopK [(0, _)] (fun nn E H => ∃ (q : Nat) (V : Value), (q ≤ 1) ∧ (V.oneCell' = true) ∧ nn = 1 - q ∧ E = [(4, .val V), (5, .val (.int .i64 (q : Int)))] ∧ H = [.row V 5 1 (([c] : List UInt8).take q).length (bytesA (([c] : List UInt8).take q))]) _ (⟨0, _, by omega, rfl, rfl, rfl, rfl⟩) (by repeat (first | exact envNil | refine envCons rfl ?_)) (by repeat (first | exact envNil | refine envCons rfl ?_)) (by repeat (first | exact subPnil | refine subPcons 0 rfl ?_)) ?_
 rintro nn E H ⟨q, V, hq, hV, rfl, rfl, rfl⟩
 dsimp only [List.cons_append, List.nil_append]
 refine AW.seq ?_
 refine AW.seq ?_
 refine AW.region ?_
 refine AO.op (O.move rfl rfl) rfl rfl rfl ?_
 refine AO.op (O.move rfl rfl) rfl rfl rfl ?_
 refine AO.op (O.lenS rfl rfl) rfl rfl rfl ?_
 refine AO.op (O.lss rfl rfl rfl (by rfl)) rfl rfl rfl ?_
 refine AO.nil ?_
 refine AQ.thenN ?_
 refine AW.split rfl (fun hlt => ?_) (fun hlt => ?_) <;> (try simp only [decide_eq_true_eq, decide_eq_false_iff_not, beq_iff_eq, beq_eq_false_iff_ne, bne_iff_ne, bne_eq_false_iff_eq, Bool.not_eq_true', Bool.not_eq_false', Bool.not_eq_true, Bool.not_eq_false, ne_eq, Int.not_lt, Int.not_le, Bool.and_eq_true, Bool.or_eq_true, Bool.or_eq_false_iff, Bool.and_eq_false_imp, strOf_toList, Decidable.not_not] at hlt)
 ·skip
  obtain rfl : q = 0 := by omega
  refine AW.skip ?_
  refine AQ.thenN ?_
  refine AW.seq ?_
  refine AW.block ?_
  refine AW.seq ?_
  refine AW.region ?_
  refine AO.op (O.move rfl rfl) rfl rfl rfl ?_
  refine AO.op (O.move rfl rfl) rfl rfl rfl ?_
  refine AO.op (O.indexS rfl rfl rfl ⟨by omega, by assumption⟩) rfl rfl rfl ?_
  refine AO.op (O.assign rfl rfl) rfl rfl rfl ?_
  refine AO.nil ?_
  refine AQ.thenN ?_
  refine AW.seq ?_
  refine AW.seq ?_
  refine AW.region ?_
  refine AO.op (O.move rfl rfl) rfl rfl rfl ?_
  refine AO.op (O.neq rfl rfl rfl (by exact bne_iff_ne.2 (by omega))) rfl rfl rfl ?_
  refine AO.nil ?_
  refine AQ.thenN ?_
  refine AW.condT rfl ?_
  refine AW.seq ?_
  refine AW.seq ?_
  refine AW.region ?_
  refine AO.op (O.move rfl rfl) rfl rfl rfl ?_
  refine AO.op (O.call rfl Tryz.func110 rfl rfl rfl (oplain_fn c h)) rfl rfl rfl ?_
  refine AO.op (O.not rfl rfl (by rfl)) rfl rfl rfl ?_
  refine AO.nil ?_
  refine AQ.thenN ?_
  refine AW.condF rfl ?_
  refine AW.skip ?_
  refine AQ.thenN ?_
  refine AW.seq ?_
  refine AW.region ?_
  refine AO.op (O.move rfl rfl) rfl rfl rfl ?_
  refine AO.op (O.move rfl rfl) rfl rfl rfl ?_
  refine AO.opB (O.buildSlice rfl rfl rfl (by rfl) (by rfl) (by rfl) (by rfl)) rfl rfl rfl ?_
  intro B1
  refine AO.g ?_
  (refine G.freezeSl 0 25 rfl rfl ⟨Nat.le_refl _, by unfold maxLen; omega⟩ ?_)
  refine G.unfull 25 rfl ?_
  refine AO.u ?_
  dsimp only [List.eraseIdx]
  (refine AO.append' (i := 0) rfl rfl rfl rfl (by rfl) (by rfl) rfl rfl rfl (by exact SrcA.ro TyD.ax (by rfl) (Nat.le_of_ble_eq_true rfl)) (by rfl) (by (unfold maxLen; simp only [List.length_take, List.length_drop, List.length_append, List.length_cons, List.length_nil, List.length_set, Nat.zero_add]; omega)) (by (simp only [List.length_take, List.length_drop, List.length_append, List.length_cons, List.length_nil, List.length_set, Nat.zero_add]; omega)) (by (dsimp only [List.set, List.cons_append, List.nil_append, List.take, List.drop]; done)) (fun _ => by (dsimp only [List.set]; done)) ?_)
  intro V2 hV2
  refine AO.op (O.assign rfl rfl) rfl rfl rfl ?_
  refine AO.nil ?_
  refine AQ.thenN ?_
  refine AW.exit ?_
  refine AQ.thenX ?_
  refine AQ.blockX rfl ?_
  refine AQ.thenN ?_
  refine AW.region ?_
  refine AO.op (O.move rfl rfl) rfl rfl rfl ?_
  refine AO.op (O.add rfl rfl rfl (by exact wI64 (by omega))) rfl rfl rfl ?_
  refine AO.op (O.assign rfl rfl) rfl rfl rfl ?_
  refine AO.nil ?_
  refine AQ.loopKN _ _ _ (by omega) (⟨1, _, by omega, ‹_›, rfl, rfl, rfl⟩) (by repeat (first | exact envNil | refine envCons rfl ?_)) (by repeat (first | exact envNil | refine envCons rfl ?_)) (by repeat (first | exact subPnil | refine subPcons 0 rfl ?_))
 ·skip
  obtain rfl : q = 1 := by omega
  refine AW.exit ?_
  refine AQ.thenX ?_
  refine AQ.loopX ?_
  refine AQ.blockX rfl ?_
  refine AQ.thenN ?_
  refine AW.seq ?_
  refine AW.region ?_
  refine AO.op (O.move rfl rfl) rfl rfl rfl ?_
  refine AO.op (O.assign rfl rfl) rfl rfl rfl ?_
  refine AO.op (O.assign rfl rfl) rfl rfl rfl ?_
  refine AO.nil ?_
  refine AQ.thenN ?_
  refine AW.ret ?_
  refine AQ.g ?_
  (refine G.freezeRow 0 rfl [2] (by (repeat (first | exact frNil | refine frCons rfl ?_)); done) ?_)
  refine AQ.u ?_
  try dsimp only [List.map, List.eraseIdx, List.cons_append, List.nil_append]
  refine AQ.ret2 rfl rfl rfl ⟨_, List.nil_sublist _, .nil⟩ (⟨rfl, rfl⟩)
abbrev pC (c : UInt8) : ByteArray := ⟨#[47, c]⟩
theorem segs_fn (c : UInt8) (h : 97 ≤ c.toNat ∧ c.toNat ≤ 122) : Sp Tryz.prog 65 [.val (.string (pC c))] [] (Is (.tup [roBs [[c]], .val (.bool true)])) := by
 have hn : c ≠ 47 := fun e => by subst e; exact absurd h.1 (by decide)
 have hs : (pC c).toList[Int.toNat 0]? = some 47 := by rw [ByteArray.toList_eq]; rfl
 have q2 : ((pC c).toList == (⟨#[]⟩ : ByteArray).toList) = false := by rw [ByteArray.toList_eq, ByteArray.toList_eq]; rfl
 have hsz : (pC c).size = 2 := rfl
 have hz1 : 1 ≤ (pC c).size := by omega
 have hz2 : (pC c).size ≤ (pC c).size := Nat.le_refl _
 have hsl : (pC c).extract 1 2 = sC c := rfl
 refine Sp.enter Tryz.func65 rfl _ Tryz.ntmps65 rfl (fun w0 R0 => ?_)
 refine AW.seq ?_
 refine AW.region ?_
 refine AO.op (O.assign rfl rfl) rfl rfl rfl ?_
 refine AO.op (O.assign rfl rfl) rfl rfl rfl ?_
 refine AO.nil ?_
 refine AQ.thenN ?_
 refine AW.seq ?_
 refine AW.seq ?_
 refine AW.region ?_
 refine AO.op (O.move rfl rfl) rfl rfl rfl ?_
 refine AO.op (O.eqlS rfl rfl rfl (by assumption)) rfl rfl rfl ?_
 refine AO.nil ?_
 refine AQ.thenN ?_
 refine AW.condF rfl ?_
 refine AW.skip ?_
 refine AQ.thenN ?_
 refine AW.seq ?_
 refine AW.seq ?_
 refine AW.region ?_
 refine AO.op (O.move rfl rfl) rfl rfl rfl ?_
 refine AO.op (O.indexS rfl rfl rfl ⟨by omega, by assumption⟩) rfl rfl rfl ?_
 refine AO.op (O.neq rfl rfl rfl (by rfl)) rfl rfl rfl ?_
 refine AO.nil ?_
 refine AQ.thenN ?_
 refine AW.condF rfl ?_
 refine AW.skip ?_
 refine AQ.thenN ?_
 refine AW.seq ?_
 refine AW.region ?_
 refine AO.op (O.assign rfl rfl) rfl rfl rfl ?_
 refine AO.nil ?_
 refine AQ.thenN ?_
 refine AW.seq ?_
 refine AW.seq ?_
 refine AW.region ?_
 refine AO.op (O.move rfl rfl) rfl rfl rfl ?_
 refine AO.op (O.sliceS rfl rfl (by exact ⟨_, _, rfl, by rfl⟩) (by exact rfl) (by omega) (by omega) (by assumption)) rfl rfl rfl ?_
 refine AO.op (O.call rfl Tryz.func86 rfl rfl rfl (ssplit_fn c hn)) rfl rfl rfl ?_
 refine AO.op (O.lenR rfl rfl) rfl rfl rfl ?_
 refine AO.op (O.move rfl rfl) rfl rfl rfl ?_
 refine AO.nil ?_
 refine AQ.thenN ?_
 refine AW.block ?_
 refine AW.g ?_
 refine G.nilRow 31 1 ?_
 refine AW.u ?_
 refine AW.loopK [(16, _), (17, _)] (fun nn E H => ∃ (q : Nat) (V : Value), (q ≤ 1) ∧ (V.oneCell' = true) ∧ nn = 1 - q ∧ E = [(4, .val V), (18, .val (.int .i64 (q : Int)))] ∧ H = [.row V 31 1 (([[c]] : List (List UInt8)).take q).length (bsA (([[c]] : List (List UInt8)).take q))]) _ (⟨0, _, by omega, rfl, rfl, rfl, rfl⟩) (by repeat (first | exact envNil | refine envCons rfl ?_)) (by repeat (first | exact envNil | refine envCons rfl ?_)) (by repeat (first | exact subPnil | refine subPcons 0 rfl ?_)) ?_
 rintro nn E H ⟨q, V, hq, hV, rfl, rfl, rfl⟩
 dsimp only [List.cons_append, List.nil_append]
 refine AW.seq ?_
 refine AW.region ?_
 refine AO.op (O.lss rfl rfl rfl (by rfl)) rfl rfl rfl ?_
 refine AO.nil ?_
 refine AQ.thenN ?_
 refine AW.seq ?_
 refine AW.split rfl (fun hlt => ?_) (fun hlt => ?_) <;> (try simp only [decide_eq_true_eq, decide_eq_false_iff_not, beq_iff_eq, beq_eq_false_iff_ne, bne_iff_ne, bne_eq_false_iff_eq, Bool.not_eq_true', Bool.not_eq_false', Bool.not_eq_true, Bool.not_eq_false, ne_eq, Int.not_lt, Int.not_le, Bool.and_eq_true, Bool.or_eq_true, Bool.or_eq_false_iff, Bool.and_eq_false_imp, strOf_toList, Decidable.not_not] at hlt)
 ·skip
  obtain rfl : q = 0 := by omega
  refine AW.skip ?_
  refine AQ.thenN ?_
  refine AW.seq ?_
  refine AW.block ?_
  refine AW.seq ?_
  refine AW.region ?_
  refine AO.op (O.idxR rfl rfl rfl ⟨(by omega), (by omega)⟩) rfl rfl rfl ?_
  refine AO.op (O.loadR rfl rfl (by rfl)) rfl rfl rfl ?_
  refine AO.op (O.assign rfl rfl) rfl rfl rfl ?_
  refine AO.nil ?_
  refine AQ.thenN ?_
  refine AW.seq ?_
  refine AW.region ?_
  refine AO.op (O.move rfl rfl) rfl rfl rfl ?_
  refine AO.op (O.call rfl Tryz.func87 rfl rfl rfl (seg_fn c h)) rfl rfl rfl ?_
  refine AO.op (O.move rfl rfl) rfl rfl rfl ?_
  refine AO.op (O.extract rfl rfl rfl) rfl rfl rfl ?_
  refine AO.op (O.extract rfl rfl rfl) rfl rfl rfl ?_
  refine AO.op (O.assign rfl rfl) rfl rfl rfl ?_
  refine AO.op (O.assign rfl rfl) rfl rfl rfl ?_
  refine AO.nil ?_
  refine AQ.thenN ?_
  refine AW.seq ?_
  refine AW.seq ?_
  refine AW.region ?_
  refine AO.op (O.move rfl rfl) rfl rfl rfl ?_
  refine AO.op (O.not rfl rfl (by rfl)) rfl rfl rfl ?_
  refine AO.nil ?_
  refine AQ.thenN ?_
  refine AW.condF rfl ?_
  refine AW.skip ?_
  refine AQ.thenN ?_
  refine AW.region ?_
  refine AO.op (O.move rfl rfl) rfl rfl rfl ?_
  refine AO.op (O.move rfl rfl) rfl rfl rfl ?_
  refine AO.opB (O.buildSlice rfl rfl rfl (by rfl) (by rfl) (by rfl) (by rfl)) rfl rfl rfl ?_
  intro B1
  refine AO.g ?_
  (refine G.freezeSl 0 31 rfl rfl ⟨Nat.le_refl _, by unfold maxLen; omega⟩ ?_)
  refine G.unfull 31 rfl ?_
  refine AO.u ?_
  dsimp only [List.eraseIdx]
  (refine AO.append' (i := 0) rfl rfl rfl rfl (by rfl) (by rfl) rfl rfl rfl (by exact SrcA.ro TyD.ax (by rfl) (Nat.le_of_ble_eq_true rfl)) (by rfl) (by (unfold maxLen; simp only [List.length_take, List.length_drop, List.length_append, List.length_cons, List.length_nil, List.length_set, Nat.zero_add]; omega)) (by (simp only [List.length_take, List.length_drop, List.length_append, List.length_cons, List.length_nil, List.length_set, Nat.zero_add]; omega)) (by (dsimp only [List.set, List.cons_append, List.nil_append, List.take, List.drop]; done)) (fun _ => by (dsimp only [List.set]; done)) ?_)
  intro V2 hV2
  refine AO.op (O.assign rfl rfl) rfl rfl rfl ?_
  refine AO.nil ?_
  refine AQ.blockN ?_
  refine AQ.thenN ?_
  refine AW.region ?_
  refine AO.op (O.add rfl rfl rfl (by exact wI64 (by omega))) rfl rfl rfl ?_
  refine AO.op (O.move rfl rfl) rfl rfl rfl ?_
  refine AO.nil ?_
  refine AQ.loopKN _ _ _ (by omega) (⟨1, _, by omega, ‹_›, rfl, rfl, rfl⟩) (by repeat (first | exact envNil | refine envCons rfl ?_)) (by repeat (first | exact envNil | refine envCons rfl ?_)) (by repeat (first | exact subPnil | refine subPcons 0 rfl ?_))
 ·skip
  obtain rfl : q = 1 := by omega
  refine AW.exit ?_
  refine AQ.thenX ?_
  refine AQ.loopX ?_
  refine AQ.blockX rfl ?_
  refine AQ.thenN ?_
  refine AW.seq ?_
  refine AW.region ?_
  refine AO.op (O.move rfl rfl) rfl rfl rfl ?_
  refine AO.op (O.assign rfl rfl) rfl rfl rfl ?_
  refine AO.op (O.assign rfl rfl) rfl rfl rfl ?_
  refine AO.nil ?_
  refine AQ.thenN ?_
  refine AW.ret ?_
  refine AQ.g ?_
  (refine G.freezeRow 0 rfl [2] (by (repeat (first | exact frNil | refine frCons rfl ?_)); done) ?_)
  refine AQ.u ?_
  try dsimp only [List.map, List.eraseIdx, List.cons_append, List.nil_append]
  refine AQ.ret2 rfl rfl rfl ⟨_, List.nil_sublist _, .nil⟩ (⟨rfl, rfl⟩)
abbrev rqC (c : UInt8) : Msg := ⟨0, 1, 0, [], [⟨11, [c]⟩], []⟩
theorem rqC_val (c : UInt8) (h : c = 97 ∨ c = 98 ∨ c = 99) : ValM (rqC c) := by
 rcases h with rfl | rfl | rfl <;> exact of_decide_eq_true (by decide +kernel)
theorem setpath_fn (c : UInt8) (h : c = 97 ∨ c = 98 ∨ c = 99) : Sp Tryz.prog 29 [aggM ⟨0, 1, 0, [], [], []⟩, .val (.string (pC c))] [] (Is (.tup [aggM (rqC c), .val (.int .i64 0)])) := by
 have h97 : 97 ≤ c.toNat ∧ c.toNat ≤ 122 := by rcases h with rfl | rfl | rfl <;> decide
 have hset : Sp Tryz.prog 15 [aggM ⟨0, 1, 0, [], [], []⟩, .val (.int .i64 11), roBs [[c]]] [] (Is (aggM (rqC c))) := oset_fn ⟨0, 1, 0, [], [], []⟩ 11 [[c]] (by simp) (by simp) (by simp) (by simp) (fun o ho => by cases ho) (fun v hv => by obtain rfl := List.mem_singleton.1 hv; simp)
 have hval : Sp Tryz.prog 53 [aggM (rqC c)] [] (Is (.val (.bool true))) := by
  have h1 := valid_fn (rqC c)
  rw [decide_eq_true (rqC_val c h)] at h1
  exact h1
 refine Sp.enter Tryz.func29 rfl _ Tryz.ntmps29 rfl (fun w0 R0 => ?_)
 refine AW.seq ?_
 refine AW.region ?_
 refine AO.opB (O.box rfl rfl rfl rfl rfl) rfl rfl rfl ?_
 intro B1
 refine AO.opB (O.alloc rfl (by (dsimp only [zerosA, List.replicate, List.append, List.flatten, AV.cells, Value.cells, List.toList_toArray, List.map]; done)) (by rfl)) rfl rfl rfl ?_
 intro B2
 refine AO.op (O.assign rfl rfl) rfl rfl rfl ?_
 refine AO.nil ?_
 refine AQ.thenN ?_
 refine AW.seq ?_
 refine AW.region ?_
 refine AO.op (O.move rfl rfl) rfl rfl rfl ?_
 refine AO.op (O.call rfl Tryz.func65 rfl rfl rfl (segs_fn c h97)) rfl rfl rfl ?_
 refine AO.op (O.move rfl rfl) rfl rfl rfl ?_
 refine AO.op (O.extract rfl rfl rfl) rfl rfl rfl ?_
 refine AO.op (O.extract rfl rfl rfl) rfl rfl rfl ?_
 refine AO.op (O.assign rfl rfl) rfl rfl rfl ?_
 refine AO.op (O.assign rfl rfl) rfl rfl rfl ?_
 refine AO.nil ?_
 refine AQ.thenN ?_
 refine AW.seq ?_
 refine AW.seq ?_
 refine AW.region ?_
 refine AO.op (O.move rfl rfl) rfl rfl rfl ?_
 refine AO.op (O.not rfl rfl (by rfl)) rfl rfl rfl ?_
 refine AO.nil ?_
 refine AQ.thenN ?_
 refine AW.condF rfl ?_
 refine AW.skip ?_
 refine AQ.thenN ?_
 refine AW.seq ?_
 refine AW.region ?_
 (refine AO.op (O.loadK rfl rfl (by repeat (first | exact List.Mem.head _ | refine List.Mem.tail _ ?_)) (by (dsimp only [List.set, List.cons_append, List.nil_append, List.take, List.drop]; done)) (by rfl)) rfl rfl rfl ?_)
 refine AO.op (O.move rfl rfl) rfl rfl rfl ?_
 refine AO.op (O.call rfl Tryz.func15 rfl rfl rfl (hset)) rfl rfl rfl ?_
 refine AO.opB (O.alloc rfl (by (dsimp only [zerosA, List.replicate, List.append, List.flatten, AV.cells, Value.cells, List.toList_toArray, List.map]; done)) (by rfl)) rfl rfl rfl ?_
 intro B3
 (refine AO.store (i := 0) rfl rfl rfl rfl rfl rfl (by rfl) (by rfl) (by rfl) (by (dsimp only [List.set, List.cons_append, List.nil_append, List.take, List.drop]; done)) (by (dsimp only [List.set, List.cons_append, List.nil_append, List.take, List.drop]; done)) ?_)
 refine AO.nil ?_
 refine AQ.thenN ?_
 refine AW.seq ?_
 refine AW.seq ?_
 refine AW.region ?_
 (refine AO.op (O.loadK rfl rfl (by repeat (exact List.Mem.head _)) (by (dsimp only [List.set, List.cons_append, List.nil_append, List.take, List.drop]; done)) (by rfl)) rfl rfl rfl ?_)
 refine AO.op (O.call rfl Tryz.func53 rfl rfl rfl (hval)) rfl rfl rfl ?_
 refine AO.op (O.not rfl rfl (by rfl)) rfl rfl rfl ?_
 refine AO.nil ?_
 refine AQ.thenN ?_
 refine AW.condF rfl ?_
 refine AW.skip ?_
 refine AQ.thenN ?_
 refine AW.seq ?_
 refine AW.region ?_
 (refine AO.op (O.loadK rfl rfl (by repeat (exact List.Mem.head _)) (by (dsimp only [List.set, List.cons_append, List.nil_append, List.take, List.drop]; done)) (by rfl)) rfl rfl rfl ?_)
 (refine AO.store (i := 1) rfl rfl rfl rfl rfl rfl (by rfl) (by rfl) (by rfl) (by (dsimp only [List.set, List.cons_append, List.nil_append, List.take, List.drop]; done)) (by (dsimp only [List.set, List.cons_append, List.nil_append, List.take, List.drop]; done)) ?_)
 refine AO.op (O.assign rfl rfl) rfl rfl rfl ?_
 refine AO.nil ?_
 refine AQ.thenN ?_
 refine AW.ret ?_
 refine FnQ.coe (AQ.retCT rfl rfl rfl (by repeat (first | exact List.Mem.head _ | refine List.Mem.tail _ ?_)) (by (dsimp only [List.set, List.cons_append, List.nil_append, List.take, List.drop]; done)) (by rfl) ⟨_, List.nil_sublist _, .nil⟩ ⟨rfl, rfl⟩) (Coe.tup (by (repeat (first | exact CoeL.nil | refine CoeL.cons Coe.rfl ?_)); done)) (⟨rfl, rfl⟩)
/-! ### CacheKey -/
abbrev keyI (c : UInt8) : It := .mk 4 0 [] [.mk 0 1 [] [], .mk 4 0 [] [.mk 4 0 [] [.mk 0 11 [] [], .mk 2 0 [c] []]]]
abbrev keyC (c : UInt8) : List UInt8 := [0x82, 0x01, 0x81, 0x82, 0x0b, 0x41, c]
theorem keyI_enc (c : UInt8) : (keyI c).enc = keyC c := by
 simp only [It.enc, encIs, hnI]
 rfl
theorem leafN (n : Int) (h : 0 ≤ n ∧ n < 24) : leafI (.mk 0 n [] []) := ⟨rfl, .inl ⟨.inl rfl, h.1, h.2, rfl⟩⟩
theorem leafB (c : UInt8) : leafI (.mk 2 0 [c] []) := ⟨rfl, .inr ⟨rfl, rfl, by simp⟩⟩
theorem pair_ok (c : UInt8) : It.ok 1 (.mk 4 0 [] [.mk 0 11 [] [], .mk 2 0 [c] []]) := .inr ⟨rfl, rfl, rfl, by simp, fun y hy => by
 rcases List.mem_cons.1 hy with rfl | hy
 ·exact leafN 11 (by omega)
 ·obtain rfl := List.mem_singleton.1 hy; exact leafB c⟩
theorem list_ok (c : UInt8) : It.ok 2 (.mk 4 0 [] [.mk 4 0 [] [.mk 0 11 [] [], .mk 2 0 [c] []]]) := .inr ⟨rfl, rfl, rfl, by simp, fun y hy => by
 obtain rfl := List.mem_singleton.1 hy; exact pair_ok c⟩
theorem keyI_ok (c : UInt8) : It.ok 3 (keyI c) := .inr ⟨rfl, rfl, rfl, by simp, fun y hy => by
 rcases List.mem_cons.1 hy with rfl | hy
 ·exact .inl (leafN 1 (by omega))
 ·obtain rfl := List.mem_singleton.1 hy; exact list_ok c⟩
theorem cbytes_fn (c : UInt8) : Sp Tryz.prog 68 [roB [c]] [] (Is (.agg [.val (.int .i64 2), .val (.int .u64 0), roB [c], .ro false 0 []])) := by
 refine Sp.enter Tryz.func68 rfl _ Tryz.ntmps68 rfl (fun w0 R0 => ?_)
 refine AW.seq ?_
 refine AW.region ?_
 refine AO.opB (O.alloc rfl (by (dsimp only [zerosA, List.replicate, List.append, List.flatten, AV.cells, Value.cells, List.toList_toArray, List.map]; done)) (by rfl)) rfl rfl rfl ?_
 intro B1
 refine AO.nil ?_
 refine AQ.thenN ?_
 refine AW.seq ?_
 refine AW.region ?_
 refine AO.op (O.move rfl rfl) rfl rfl rfl ?_
 refine AO.op (O.call rfl Tryz.func90 rfl rfl rfl (sclone_fn _ (by simp))) rfl rfl rfl ?_
 refine AO.op (O.build rfl rfl rfl (by rfl)) rfl rfl rfl ?_
 (refine AO.store (i := 0) rfl rfl rfl rfl rfl rfl (by rfl) (by rfl) (by rfl) (by (dsimp only [List.set, List.cons_append, List.nil_append, List.take, List.drop]; done)) (by (dsimp only [List.set, List.cons_append, List.nil_append, List.take, List.drop]; done)) ?_)
 refine AO.nil ?_
 refine AQ.thenN ?_
 refine AW.ret ?_
 refine FnQ.coe (AQ.retCell rfl rfl (by repeat (exact List.Mem.head _)) (by (dsimp only [List.set, List.cons_append, List.nil_append, List.take, List.drop]; done)) (by rfl) ⟨_, List.nil_sublist _, .nil⟩ ⟨rfl, rfl⟩) (Coe.agg (by (repeat (first | exact CoeL.nil | refine CoeL.cons Coe.rfl ?_ | refine CoeL.cons Coe.nil ?_)); done)) (⟨rfl, rfl⟩)
abbrev itN2 (n : Int) : List AV := [.val (.int .i64 0), .val (.int .u64 n), roB [], .ro false 0 []]
abbrev itB2 (c : UInt8) : List AV := [.val (.int .i64 2), .val (.int .u64 0), roB [c], .ro false 0 []]
theorem arr1_fn (c : UInt8) : Sp Tryz.prog 67 [.ro false 2 (itN2 11 ++ itB2 c)] [] (Is (.agg [.val (.int .i64 4), .val (.int .u64 0), roB [], .ro false 2 (itN2 11 ++ itB2 c)])) := by
 have h := carray_fn 0 [.mk 0 11 [] [], .mk 2 0 [c] []] (by simp) (fun y hy => by
  rcases List.mem_cons.1 hy with rfl | hy
  ·exact leafN 11 (by omega)
  ·obtain rfl := List.mem_singleton.1 hy; exact leafB c)
 simp only [It.cells, itsA, List.append_nil, List.length_cons, List.length_nil] at h
 exact h
abbrev itP2 (c : UInt8) : List AV := [.val (.int .i64 4), .val (.int .u64 0), roB [], .ro false 2 (itN2 11 ++ itB2 c)]
abbrev itL2 (c : UInt8) : List AV := [.val (.int .i64 4), .val (.int .u64 0), roB [], .ro false 1 (itP2 c)]
theorem arr2_fn (c : UInt8) : Sp Tryz.prog 67 [.ro false 2 (itN2 1 ++ itL2 c)] [] (Is (.agg (keyI c).cells)) := by
 have h := carray_fn 2 [.mk 0 1 [] [], .mk 4 0 [] [.mk 4 0 [] [.mk 0 11 [] [], .mk 2 0 [c] []]]] (by simp) (fun y hy => by
  rcases List.mem_cons.1 hy with rfl | hy
  ·exact .inl (leafN 1 (by omega))
  ·obtain rfl := List.mem_singleton.1 hy; exact list_ok c)
 simp only [It.cells, itsA, List.append_nil, List.length_cons, List.length_nil] at h ⊢
 exact h
set_option maxHeartbeats 4000000 in
theorem cachekey_fn (c : UInt8) : Sp Tryz.prog 30 [aggM (rqC c)] [] (Is (roB (keyC c))) := by
 have henc := cencode_fn 3 (keyI c) (keyI_ok c) (by omega) (by simp [It.nodes, nodesL]) (by rw [keyI_enc]; simp)
 rw [keyI_enc] at henc
 have hol1 : ([⟨11, [c]⟩] : List Opt).length = 1 := rfl
 have hg : ((optsA [⟨11, [c]⟩]).drop (Int.toNat ((0 : Nat) : Int) * 2)).take 2 = [.val (.int .i64 11), roB [c]] := rfl
 refine Sp.enter Tryz.func30 rfl _ Tryz.ntmps30 rfl (fun w0 R0 => ?_)
 refine AW.seq ?_
 refine AW.region ?_
 refine AO.opB (O.box rfl rfl rfl rfl rfl) rfl rfl rfl ?_
 intro B1
 refine AO.op (O.assign rfl rfl) rfl rfl rfl ?_
 refine AO.nil ?_
 refine AQ.thenN ?_
 refine AW.seq ?_
 refine AW.region ?_
 refine AO.op (O.build rfl rfl rfl (by rfl)) rfl rfl rfl ?_
 refine AO.opB (O.alloc rfl (by (dsimp only [zerosA, List.replicate, List.append, List.flatten, AV.cells, Value.cells, List.toList_toArray, List.map]; done)) (by rfl)) rfl rfl rfl ?_
 intro B2
 (refine AO.store (i := 0) rfl rfl rfl rfl rfl rfl (by rfl) (by rfl) (by rfl) (by (dsimp only [List.set, List.cons_append, List.nil_append, List.take, List.drop]; done)) (by (dsimp only [List.set, List.cons_append, List.nil_append, List.take, List.drop]; done)) ?_)
 refine AO.nil ?_
 refine AQ.thenN ?_
 refine AW.seq ?_
 refine AW.seq ?_
 refine AW.region ?_
 refine AO.op (O.fieldAddr rfl rfl) rfl rfl rfl ?_
 refine AO.op (O.load rfl rfl (by repeat (first | exact List.Mem.head _ | refine List.Mem.tail _ ?_)) (by rfl)) rfl rfl rfl ?_
 refine AO.op (O.lenR rfl rfl) rfl rfl rfl ?_
 refine AO.op (O.move rfl rfl) rfl rfl rfl ?_
 refine AO.nil ?_
 refine AQ.thenN ?_
 refine AW.block ?_
 refine AW.g ?_
 refine G.nilRow 100 4 ?_
 refine AW.u ?_
 refine AW.loopK [(1, _), (3, _), (11, _), (12, _)] (fun nn E H => ∃ (q : Nat) (V : Value), (q ≤ 1) ∧ (V.oneCell' = true) ∧ nn = 1 - q ∧ E = [(13, .val (.int .i64 (q : Int)))] ∧ H = [.row V 100 4 q ((itP2 c).take (q * 4)), .blk B2 100 4 [.val (.int .i64 4), .val (.int .u64 0), .val (.slice none 0 0), .val V], .blk B1 41 6 [.val (.int .i64 0), .val (.int .i64 1), .val (.int .i64 0), roB [], roO [⟨11, [c]⟩], roB []]]) _ (⟨0, _, by omega, rfl, rfl, rfl, rfl⟩) (by repeat (first | exact envNil | refine envCons rfl ?_)) (by repeat (first | exact envNil | refine envCons rfl ?_)) (by repeat (first | exact subPnil | refine subPcons 0 rfl ?_)) ?_
 rintro nn E H ⟨q, V, hq, hV, rfl, rfl, rfl⟩
 dsimp only [List.cons_append, List.nil_append]
 refine AW.seq ?_
 refine AW.region ?_
 refine AO.op (O.lss rfl rfl rfl (by rfl)) rfl rfl rfl ?_
 refine AO.nil ?_
 refine AQ.thenN ?_
 refine AW.seq ?_
 refine AW.split rfl (fun hlt => ?_) (fun hlt => ?_) <;> (try simp only [decide_eq_true_eq, decide_eq_false_iff_not, beq_iff_eq, beq_eq_false_iff_ne, bne_iff_ne, bne_eq_false_iff_eq, Bool.not_eq_true', Bool.not_eq_false', Bool.not_eq_true, Bool.not_eq_false, ne_eq, Int.not_lt, Int.not_le, Bool.and_eq_true, Bool.or_eq_true, Bool.or_eq_false_iff, Bool.and_eq_false_imp, strOf_toList, Decidable.not_not] at hlt)
 ·skip
  obtain rfl : q = 0 := by omega
  refine AW.skip ?_
  refine AQ.thenN ?_
  refine AW.seq ?_
  refine AW.block ?_
  refine AW.seq ?_
  refine AW.region ?_
  refine AO.op (O.idxR rfl rfl rfl ⟨(by omega), (by omega)⟩) rfl rfl rfl ?_
  refine AO.op (O.loadRK rfl rfl (by exact hg) (by rfl)) rfl rfl rfl ?_
  refine AO.opB (O.alloc rfl (by (dsimp only [zerosA, List.replicate, List.append, List.flatten, AV.cells, Value.cells, List.toList_toArray, List.map]; done)) (by rfl)) rfl rfl rfl ?_
  intro B3
  (refine AO.store (i := 0) rfl rfl rfl rfl rfl rfl (by rfl) (by rfl) (by rfl) (by (dsimp only [List.set, List.cons_append, List.nil_append, List.take, List.drop]; done)) (by (dsimp only [List.set, List.cons_append, List.nil_append, List.take, List.drop]; done)) ?_)
  refine AO.nil ?_
  refine AQ.thenN ?_
  refine AW.seq ?_
  refine AW.region ?_
  refine AO.op (O.fieldAddr rfl rfl) rfl rfl rfl ?_
  refine AO.op (O.load rfl rfl (by repeat (exact List.Mem.head _)) (by rfl)) rfl rfl rfl ?_
  refine AO.op (O.call rfl Tryz.func66 rfl rfl rfl (nokey_fn)) rfl rfl rfl ?_
  refine AO.op (O.not rfl rfl (by rfl)) rfl rfl rfl ?_
  refine AO.op (O.move rfl rfl) rfl rfl rfl ?_
  refine AO.op (O.fieldAddr rfl rfl) rfl rfl rfl ?_
  refine AO.op (O.load rfl rfl (by repeat (exact List.Mem.head _)) (by rfl)) rfl rfl rfl ?_
  refine AO.op (O.neq rfl rfl rfl (by exact bne_iff_ne.2 (by omega))) rfl rfl rfl ?_
  refine AO.op (O.pickT rfl rfl rfl) rfl rfl rfl ?_
  refine AO.op (O.move rfl rfl) rfl rfl rfl ?_
  refine AO.op (O.fieldAddr rfl rfl) rfl rfl rfl ?_
  refine AO.op (O.load rfl rfl (by repeat (exact List.Mem.head _)) (by rfl)) rfl rfl rfl ?_
  refine AO.op (O.neq rfl rfl rfl (by exact bne_iff_ne.2 (by omega))) rfl rfl rfl ?_
  refine AO.op (O.pickT rfl rfl rfl) rfl rfl rfl ?_
  refine AO.nil ?_
  refine AQ.thenN ?_
  refine AW.condT rfl ?_
  refine AW.regionD 11 (by kernel_rfl) (by kernel_rfl) ?_
  simp only [List.take_succ_cons, List.take_zero, List.drop_succ_cons, List.drop_zero]
  refine FA.op (O.fieldAddr rfl rfl) rfl rfl rfl rfl ?_
  refine FA.op (O.load rfl rfl (by repeat (first | exact List.Mem.head _ | refine List.Mem.tail _ ?_)) (by rfl)) rfl rfl rfl rfl ?_
  refine FA.op (O.fieldAddr rfl rfl) rfl rfl rfl rfl ?_
  refine FA.op (O.load rfl rfl (by repeat (exact List.Mem.head _)) (by rfl)) rfl rfl rfl rfl ?_
  refine FA.op (O.call rfl Tryz.func37 rfl rfl rfl (intP_fn _ (by omega))) rfl rfl rfl rfl ?_
  refine FA.op (O.fieldAddr rfl rfl) rfl rfl rfl rfl ?_
  refine FA.op (O.load rfl rfl (by repeat (exact List.Mem.head _)) (by rfl)) rfl rfl rfl rfl ?_
  refine FA.op (O.call rfl Tryz.func68 rfl rfl rfl (cbytes_fn c)) rfl rfl rfl rfl ?_
  refine FA.op (OpW.frz (O.buildSliceF rfl rfl rfl (by rfl) (by rfl) (by rfl) (by rfl) (by rfl)) (by (unfold maxLen; omega))) rfl rfl rfl rfl ?_
  refine FA.op (O.call rfl Tryz.func67 rfl rfl rfl (arr1_fn c)) rfl rfl rfl rfl ?_
  refine FA.op (OpW.frz (O.buildSlice rfl rfl rfl (by rfl) (by rfl) (by rfl) (by rfl)) (by (unfold maxLen; omega))) rfl rfl rfl rfl ?_
  refine FA.nil ?_
  simp only [chosen, List.nil_append, List.cons_append, List.append_nil]
  (refine AO.append' (i := 1) rfl rfl rfl rfl (by rfl) (by rfl) rfl rfl rfl (by exact SrcA.ro TyD.ax (by rfl) (Nat.le_of_ble_eq_true rfl)) (by rfl) (by (unfold maxLen; omega)) (by omega) (by (dsimp only [List.set, List.cons_append, List.nil_append, List.take, List.drop]; done)) (fun _ => by (dsimp only [List.set]; done)) ?_)
  intro V4 hV4
  refine AO.op (O.fieldAddr rfl rfl) rfl rfl rfl ?_
  (refine AO.store (i := 2) rfl rfl rfl rfl rfl rfl (by (simp [AV.cells, AV.one, *]; done)) (by rfl) (by rfl) (by (dsimp only [List.set, List.cons_append, List.nil_append, List.take, List.drop]; done)) (by (dsimp only [List.set, List.cons_append, List.nil_append, List.take, List.drop]; done)) ?_)
  refine AO.nil ?_
  refine AQ.blockN ?_
  refine AQ.thenN ?_
  refine AW.region ?_
  refine AO.op (O.add rfl rfl rfl (by exact wI64 (by omega))) rfl rfl rfl ?_
  refine AO.op (O.move rfl rfl) rfl rfl rfl ?_
  refine AO.nil ?_
  refine AQ.loopKN _ _ _ (by omega) (⟨1, _, by omega, ‹_›, rfl, rfl, rfl⟩) (by repeat (first | exact envNil | refine envCons rfl ?_)) (by repeat (first | exact envNil | refine envCons rfl ?_)) (by repeat (first | exact subPnil | refine subPcons 1 rfl ?_))
 ·skip
  obtain rfl : q = 1 := by omega
  refine AW.g ?_
  refine G.freezeCell 0 0 3 rfl rfl rfl ?_
  refine AW.u ?_
  dsimp only [List.eraseIdx, List.set]
  refine AW.exit ?_
  refine AQ.thenX ?_
  refine AQ.loopX ?_
  refine AQ.blockX rfl ?_
  refine AQ.thenN ?_
  refine AW.seq ?_
  refine AW.regionD 5 (by kernel_rfl) (by kernel_rfl) ?_
  simp only [List.take_succ_cons, List.take_zero, List.drop_succ_cons, List.drop_zero]
  refine FA.op (O.fieldAddr rfl rfl) rfl rfl rfl rfl ?_
  refine FA.op (O.load rfl rfl (by repeat (first | exact List.Mem.head _ | refine List.Mem.tail _ ?_)) (by rfl)) rfl rfl rfl rfl ?_
  refine FA.op (O.call rfl Tryz.func37 rfl rfl rfl (intP_fn _ (by omega))) rfl rfl rfl rfl ?_
  refine FA.op (O.loadK rfl rfl (by repeat (exact List.Mem.head _)) (by rfl) (by rfl)) rfl rfl rfl rfl ?_
  refine FA.opN (O.buildSliceF rfl rfl rfl (by rfl) (by rfl) (by rfl) (by rfl) (by rfl)) rfl rfl rfl rfl ?_
  refine FA.nil ?_
  simp only [chosen, List.nil_append, List.cons_append, List.append_nil]
  rintro _ _ ⟨B5, rfl, rfl⟩
  simp only [List.cons_append, List.nil_append]
  refine AO.g ?_
  refine G.closeRow (n := 2) (cap := 2) 0 rfl rfl rfl (Nat.le_refl _) (by (unfold maxLen; omega)) ?_
  refine AO.u ?_
  dsimp only [List.set]
  refine AO.op (O.assign rfl rfl) rfl rfl rfl ?_
  refine AO.nil ?_
  refine AQ.thenN ?_
  refine AW.seq ?_
  refine AW.seq ?_
  refine AW.region ?_
  refine AO.op (O.fieldAddr rfl rfl) rfl rfl rfl ?_
  refine AO.op (O.load rfl rfl (by repeat (first | exact List.Mem.head _ | refine List.Mem.tail _ ?_)) (by rfl)) rfl rfl rfl ?_
  refine AO.op (O.eql rfl rfl rfl (by exact beq_eq_false_iff_ne.2 (by omega))) rfl rfl rfl ?_
  refine AO.nil ?_
  refine AQ.thenN ?_
  refine AW.condF rfl ?_
  refine AW.g ?_
  (refine G.freezeRow 0 rfl [6] (by (repeat (first | exact frNil | refine frCons rfl ?_)); done) ?_)
  refine AW.u ?_
  try dsimp only [List.map, List.eraseIdx, List.cons_append, List.nil_append]
  refine AW.skip ?_
  refine AQ.thenN ?_
  refine AW.seq ?_
  refine AW.region ?_
  refine AO.op (O.move rfl rfl) rfl rfl rfl ?_
  (refine AO.op (O.callC rfl Tryz.func67 rfl rfl rfl (arr2_fn c) (by (repeat (first | exact CoeL.nil | refine CoeL.cons Coe.rfl ?_ | refine CoeL.cons Coe.nil ?_ | refine CoeL.cons (Coe.ro ?_) ?_)); done)) rfl rfl rfl ?_)
  refine AO.op (O.call rfl Tryz.func69 rfl rfl rfl (henc)) rfl rfl rfl ?_
  refine AO.op (O.move rfl rfl) rfl rfl rfl ?_
  refine AO.op (O.extract rfl rfl rfl) rfl rfl rfl ?_
  refine AO.op (O.extract rfl rfl rfl) rfl rfl rfl ?_
  refine AO.op (O.assign rfl rfl) rfl rfl rfl ?_
  refine AO.op (O.assign rfl rfl) rfl rfl rfl ?_
  refine AO.nil ?_
  refine AQ.thenN ?_
  refine AW.seq ?_
  refine AW.region ?_
  refine AO.op (O.move rfl rfl) rfl rfl rfl ?_
  refine AO.op (O.assign rfl rfl) rfl rfl rfl ?_
  refine AO.nil ?_
  refine AQ.thenN ?_
  refine AW.ret ?_
  refine AQ.ret1 rfl rfl ⟨_, List.nil_sublist _, .nil⟩ (⟨rfl, rfl⟩)
end Go.Proofs.YtoonnnifelnaiaaGreatDoor.By

namespace Go.Proofs.YtoonnnifelnaiaaGreatDoor.By
open Go.RowKit L A
set_option linter.unusedVariables false
set_option maxRecDepth 20000
/-- Which number is newer (the same as the reference's of layer 19). -/
def newerT (a b c d : Int) : Bool := (decide (a < c) && decide (c - a < 8388608) || decide (c < a) && decide (8388608 < a - c)) || decide (128 < d - b)
/-- The number of state s, where the first one is start. -/
def seqOf (st : Int) (s : Nat) : Int := (st + (s : Int)) % 16777216
/-! ### Numbers as bytes -/
def fromU (n : Int) : List UInt8 := (([16777216, 65536, 256, 1] : List Int).filter fun p => decide (0 < n / p)).map fun p => u8 (n / p)
def uintL (l : List UInt8) : Int := l.foldl (fun n c => n * 256 + (c.toNat : Int)) 0
theorem u8_nat (x : Int) : ((u8 x).toNat : Int) = x % 256 := by
 simp only [u8, UInt8.toNat_ofNat']
 omega
end Go.Proofs.YtoonnnifelnaiaaGreatDoor.By

namespace Go.Proofs.YtoonnnifelnaiaaGreatDoor.By
open Go.RowKit L A
set_option linter.unusedVariables false
set_option maxRecDepth 20000
set_option linter.unusedSimpArgs false
attribute [local irreducible] AW AQ AO
def getO? (os : List Opt) (n : Int) : Option (List UInt8) := (os.find? fun o => o.num == n).map Opt.val
abbrev resG (r : Option (List UInt8)) : AV := .tup [roB (r.getD []), .val (.bool r.isSome)]
theorem retG {q : AV} {r : Option (List UInt8)} {a : List UInt8} {b : Bool} (h : r.getD [] = a) (h2 : r.isSome = b) (hq : q = .tup [roB a, .val (.bool b)]) : Is (resG r) q [] := by subst h; subst h2; exact ⟨hq, rfl⟩
theorem getO_take {os : List Opt} {n : Int} {k : Nat} (hk : k < os.length) (h : getO? (os.take k) n = none) : getO? (os.take (k + 1)) n = if (oat os k).num = n then some (oat os k).val else none := by
 rw [take_snoc Opt.none hk]
 unfold getO? at *
 rw [Option.map_eq_none_iff] at h
 rw [List.find?_append, h, Option.none_or, List.find?_singleton]
 by_cases e : (os.getD k Opt.none).num = n
 ·rw [if_pos (by simpa using e), if_pos e]; rfl
 ·rw [if_neg (by simpa using e), if_neg e]; rfl
theorem getO_app {os ps : List Opt} {n : Int} {v : List UInt8} (h : getO? os n = some v) : getO? (os ++ ps) n = some v := by
 unfold getO? at *
 rw [Option.map_eq_some_iff] at h ⊢
 obtain ⟨o, ho, rfl⟩ := h
 exact ⟨o, by rw [List.find?_append, ho]; rfl, rfl⟩
set_option maxHeartbeats 4000000 in
theorem oget_fn (m : Msg) (n : Int) (h3 : m.opts.length ≤ 1000000) (hat : ∀ o ∈ m.opts, o.val.length ≤ 140737488355328) : Sp Tryz.prog 17 [aggM m, .val (.int .i64 n)] [] (Is (resG (getO? m.opts n))) := by
 refine Sp.enter Tryz.func17 rfl _ Tryz.ntmps17 rfl (fun w0 R0 => ?_)
 refine AW.seq ?_
 refine AW.region ?_
 refine AO.opB (O.box rfl rfl rfl rfl rfl) rfl rfl rfl ?_
 intro B1
 refine AO.op (O.assign rfl rfl) rfl rfl rfl ?_
 refine AO.op (O.assign rfl rfl) rfl rfl rfl ?_
 refine AO.nil ?_
 refine AQ.thenN ?_
 refine AW.seq ?_
 refine AW.seq ?_
 refine AW.region ?_
 refine AO.op (O.fieldAddr rfl rfl) rfl rfl rfl ?_
 refine AO.op (O.load rfl rfl (by repeat (exact List.Mem.head _)) (by rfl)) rfl rfl rfl ?_
 refine AO.op (O.lenR rfl rfl) rfl rfl rfl ?_
 refine AO.op (O.move rfl rfl) rfl rfl rfl ?_
 refine AO.nil ?_
 refine AQ.thenN ?_
 refine AW.block ?_
 refine AW.loopK [(1, _), (9, _), (10, _)] (fun nn E H => ∃ (k : Nat), (k ≤ m.opts.length) ∧ (getO? (m.opts.take k) n = none) ∧ nn = m.opts.length - k ∧ E = [(11, .val (.int .i64 (k : Int)))] ∧ H = [.blk B1 41 6 [.val (.int .i64 m.ty), .val (.int .i64 m.code), .val (.int .i64 m.id), roB m.tok, roO m.opts, roB m.pay]]) _ (⟨0, by omega, rfl, rfl, rfl, rfl⟩) (by repeat (first | exact envNil | refine envCons rfl ?_)) (by repeat (first | exact envNil | refine envCons rfl ?_)) (by repeat (first | exact subPnil | refine subPcons 0 rfl ?_)) ?_
 rintro nn E H ⟨k, h4, hno, rfl, rfl, rfl⟩
 dsimp only [List.cons_append, List.nil_append]
 refine AW.seq ?_
 refine AW.region ?_
 refine AO.op (O.lss rfl rfl rfl (by rfl)) rfl rfl rfl ?_
 refine AO.nil ?_
 refine AQ.thenN ?_
 refine AW.seq ?_
 refine AW.split rfl (fun h5 => ?_) (fun h5 => ?_) <;> (try simp only [decide_eq_true_eq, decide_eq_false_iff_not, beq_iff_eq, beq_eq_false_iff_ne, bne_iff_ne, bne_eq_false_iff_eq, Bool.not_eq_true', Bool.not_eq_false', Bool.not_eq_true, Bool.not_eq_false, ne_eq, Int.not_lt, Int.not_le, Bool.and_eq_true, Bool.or_eq_true, Bool.or_eq_false_iff, Bool.and_eq_false_imp, strOf_toList, Decidable.not_not] at h5)
 ·skip
  have hk : k < m.opts.length := by omega
  have hv : (oat m.opts k).val.length ≤ 140737488355328 := hat _ (getD_mem Opt.none hk)
  have hsc := getO_take hk hno
  refine AW.skip ?_
  refine AQ.thenN ?_
  refine AW.seq ?_
  refine AW.block ?_
  refine AW.seq ?_
  refine AW.region ?_
  refine AO.op (O.idxR rfl rfl rfl ⟨(by omega), (by omega)⟩) rfl rfl rfl ?_
  refine AO.op (O.loadRK rfl rfl (by exact getO (by omega) (by omega)) (by rfl)) rfl rfl rfl ?_
  refine AO.opB (O.alloc rfl (by (dsimp only [List.set, List.append, List.cons_append, List.nil_append, roB_cells, roI_cells, roO_cells, splice, ofConst, AV.cells, List.map, List.map_cons, List.map_nil, List.take, List.drop, Nat.zero_add, Nat.add_zero, Nat.reduceAdd, Nat.reduceMul, Nat.zero_mul, Value.cells, List.toList_toArray, zerosA, List.replicate, List.flatten, List.append_nil]; done)) (by rfl)) rfl rfl rfl ?_
  intro B2
  (refine AO.store (i := 0) rfl rfl rfl rfl rfl rfl (by rfl) (by rfl) (by rfl) (by (dsimp only [List.set, List.append, List.cons_append, List.nil_append, roB_cells, roI_cells, roO_cells, splice, ofConst, AV.cells, List.map, List.map_cons, List.map_nil, List.take, List.drop, Nat.zero_add, Nat.add_zero, Nat.reduceAdd, Nat.reduceMul, Nat.zero_mul, Value.cells, List.toList_toArray, zerosA, List.replicate, List.flatten, List.append_nil]; done)) (by (dsimp only [List.set, List.append, List.cons_append, List.nil_append, roB_cells, roI_cells, roO_cells, splice, ofConst, AV.cells, List.map, List.map_cons, List.map_nil, List.take, List.drop, Nat.zero_add, Nat.add_zero, Nat.reduceAdd, Nat.reduceMul, Nat.zero_mul, Value.cells, List.toList_toArray, zerosA, List.replicate, List.flatten, List.append_nil]; done)) ?_)
  refine AO.nil ?_
  refine AQ.thenN ?_
  refine AW.seq ?_
  refine AW.region ?_
  refine AO.op (O.fieldAddr rfl rfl) rfl rfl rfl ?_
  refine AO.op (O.load rfl rfl (by repeat (exact List.Mem.head _)) (by rfl)) rfl rfl rfl ?_
  refine AO.op (O.move rfl rfl) rfl rfl rfl ?_
  refine AO.op (O.eql rfl rfl rfl (by rfl)) rfl rfl rfl ?_
  refine AO.nil ?_
  refine AQ.thenN ?_
  refine AW.split rfl (fun h6 => ?_) (fun h6 => ?_) <;> (try simp only [decide_eq_true_eq, decide_eq_false_iff_not, beq_iff_eq, beq_eq_false_iff_ne, bne_iff_ne, bne_eq_false_iff_eq, Bool.not_eq_true', Bool.not_eq_false', Bool.not_eq_true, Bool.not_eq_false, ne_eq, Int.not_lt, Int.not_le, Bool.and_eq_true, Bool.or_eq_true, Bool.or_eq_false_iff, Bool.and_eq_false_imp, strOf_toList, Decidable.not_not] at h6)
  ·skip
   rw [if_pos h6] at hsc
   have hr : getO? m.opts n = some (oat m.opts k).val := by
    have := getO_app (ps := m.opts.drop (k + 1)) hsc
    rwa [List.take_append_drop] at this
   refine AW.seq ?_
   refine AW.region ?_
   refine AO.op (O.fieldAddr rfl rfl) rfl rfl rfl ?_
   refine AO.op (O.load rfl rfl (by repeat (exact List.Mem.head _)) (by rfl)) rfl rfl rfl ?_
   refine AO.op (O.call rfl Tryz.func49 rfl rfl rfl (clone_fn _ (by assumption))) rfl rfl rfl ?_
   refine AO.op (O.assign rfl rfl) rfl rfl rfl ?_
   refine AO.op (O.assign rfl rfl) rfl rfl rfl ?_
   refine AO.nil ?_
   refine AQ.thenN ?_
   refine AW.ret ?_
   refine AQ.blockR ?_
   refine AQ.thenR ?_
   refine AQ.loopR ?_
   refine AQ.blockR ?_
   refine AQ.thenR ?_
   refine AQ.ret2 rfl rfl rfl ⟨_, List.nil_sublist _, .nil⟩ (retG (r := getO? m.opts n) (congrArg (fun r => Option.getD r []) hr) (congrArg Option.isSome hr) rfl)
  ·skip
   rw [if_neg h6] at hsc
   refine AW.skip ?_
   refine AQ.blockN ?_
   refine AQ.thenN ?_
   refine AW.region ?_
   refine AO.op (O.add rfl rfl rfl (by exact wI64 (by omega))) rfl rfl rfl ?_
   refine AO.op (O.move rfl rfl) rfl rfl rfl ?_
   refine AO.nil ?_
   refine AQ.loopKN _ _ _ (by omega) (⟨k + 1, by omega, hsc, rfl, rfl, rfl⟩) (by repeat (first | exact envNil | refine envCons rfl ?_)) (by repeat (first | exact envNil | refine envCons rfl ?_)) (by repeat (first | exact subPnil | refine subPcons 1 rfl ?_))
 ·skip
  obtain rfl : k = m.opts.length := by omega
  rw [List.take_length] at hno
  refine AW.exit ?_
  refine AQ.thenX ?_
  refine AQ.loopX ?_
  refine AQ.blockX rfl ?_
  refine AQ.thenN ?_
  refine AW.seq ?_
  refine AW.region ?_
  refine AO.op (O.assign rfl rfl) rfl rfl rfl ?_
  refine AO.op (O.assign rfl rfl) rfl rfl rfl ?_
  refine AO.nil ?_
  refine AQ.thenN ?_
  refine AW.ret ?_
  refine FnQ.coe (AQ.ret2 rfl rfl rfl ⟨_, List.nil_sublist _, .nil⟩ ⟨rfl, rfl⟩) (Coe.tup (by (repeat (first | exact CoeL.nil | refine CoeL.cons Coe.rfl ?_ | refine CoeL.cons Coe.nil ?_)); done)) (retG (r := getO? m.opts n) (congrArg (fun r => Option.getD r []) hno) (congrArg Option.isSome hno) rfl)
/-! ### The reference's -/
end Go.Proofs.YtoonnnifelnaiaaGreatDoor.By

namespace Go.Proofs.YtoonnnifelnaiaaGreatDoor.By
open Go.RowKit L A
set_option linter.unusedVariables false
set_option maxRecDepth 20000
set_option linter.unusedSimpArgs false
attribute [local irreducible] AW AQ AO
theorem uintL_snoc (l : List UInt8) (b : UInt8) : uintL (l ++ [b]) = uintL l * 256 + (b.toNat : Int) := by simp [uintL]
theorem uintL_bd : ∀ (n : Nat) (l : List UInt8), l.length = n → 0 ≤ uintL l ∧ uintL l < ((256 ^ n : Nat) : Int)
 | 0, l, h => by
  obtain rfl := List.eq_nil_of_length_eq_zero h
  exact ⟨by decide, by decide⟩
 | n + 1, l, h => by
  have hn : l ≠ [] := by rintro rfl; simp at h
  have hl := List.dropLast_concat_getLast hn
  have ih := uintL_bd n l.dropLast (by rw [List.length_dropLast, h]; rfl)
  rw [← hl, uintL_snoc, Nat.pow_succ]
  have := (l.getLast hn).toNat_lt
  omega
theorem uintL_in {l : List UInt8} (k : Nat) (h : l.length ≤ k) : 0 ≤ uintL l ∧ uintL l < ((256 ^ k : Nat) : Int) := by
 have h1 := uintL_bd l.length l rfl
 have h2 : 256 ^ l.length ≤ 256 ^ k := Nat.pow_le_pow_right (by omega) h
 omega
theorem ouint_fn (l : List UInt8) (hl : l.length ≤ 4) : Sp Tryz.prog 18 [roB l] [] (Is (.tup [.val (.int .i64 (uintL l)), .val (.int .i64 0)])) := by
 refine Sp.enter Tryz.func18 rfl _ Tryz.ntmps18 rfl (fun w0 R0 => ?_)
 refine AW.seq ?_
 refine AW.region ?_
 refine AO.op (O.assign rfl rfl) rfl rfl rfl ?_
 refine AO.op (O.assign rfl rfl) rfl rfl rfl ?_
 refine AO.nil ?_
 refine AQ.thenN ?_
 refine AW.seq ?_
 refine AW.region ?_
 refine AO.op (O.assign rfl rfl) rfl rfl rfl ?_
 refine AO.nil ?_
 refine AQ.thenN ?_
 refine AW.seq ?_
 refine AW.seq ?_
 refine AW.region ?_
 refine AO.op (O.move rfl rfl) rfl rfl rfl ?_
 refine AO.op (O.lenR rfl rfl) rfl rfl rfl ?_
 refine AO.op (O.move rfl rfl) rfl rfl rfl ?_
 refine AO.nil ?_
 refine AQ.thenN ?_
 refine AW.block ?_
 refine AW.loopK [(7, _), (8, _)] (fun nn E H => ∃ (k : Nat) (z : Int), (k ≤ l.length) ∧ (z = uintL (l.take k)) ∧ nn = l.length - k ∧ E = [(4, .val (.int .i64 z)), (9, .val (.int .i64 (k : Int)))] ∧ H = []) _ (⟨0, 0, by omega, rfl, rfl, rfl, rfl⟩) (by repeat (first | exact envNil | refine envCons rfl ?_)) (by repeat (first | exact envNil | refine envCons rfl ?_)) (by repeat (exact subPnil)) ?_
 rintro nn E H ⟨k, z, h4, hz, rfl, rfl, rfl⟩
 dsimp only [List.cons_append, List.nil_append]
 have hb : 0 ≤ uintL (l.take k) ∧ uintL (l.take k) < 4294967296 := uintL_in 4 (by rw [List.length_take]; omega)
 rw [← hz] at hb
 refine AW.seq ?_
 refine AW.region ?_
 refine AO.op (O.lss rfl rfl rfl (by rfl)) rfl rfl rfl ?_
 refine AO.nil ?_
 refine AQ.thenN ?_
 refine AW.seq ?_
 refine AW.split rfl (fun h5 => ?_) (fun h5 => ?_) <;> (try simp only [decide_eq_true_eq, decide_eq_false_iff_not, beq_iff_eq, beq_eq_false_iff_ne, bne_iff_ne, bne_eq_false_iff_eq, Bool.not_eq_true', Bool.not_eq_false', Bool.not_eq_true, Bool.not_eq_false, ne_eq, Int.not_lt, Int.not_le, Bool.and_eq_true, Bool.or_eq_true, Bool.or_eq_false_iff, Bool.and_eq_false_imp, strOf_toList, Decidable.not_not] at h5)
 ·skip
  have hk : k < l.length := by omega
  have hu := u8_lt (bt l k)
  have hb3 : 0 ≤ uintL (l.take k) ∧ uintL (l.take k) < 16777216 := uintL_in 3 (by rw [List.length_take]; omega)
  rw [← hz] at hb3
  have hs := uintL_snoc (l.take k) (bt l k)
  rw [← take_bt hk, ← hz] at hs
  refine AW.skip ?_
  refine AQ.thenN ?_
  refine AW.seq ?_
  refine AW.block ?_
  refine AW.seq ?_
  refine AW.region ?_
  refine AO.op (O.idxR rfl rfl rfl ⟨(by omega), (by omega)⟩) rfl rfl rfl ?_
  refine AO.op (O.loadR rfl rfl (by exact bt_at (by assumption) (by omega))) rfl rfl rfl ?_
  refine AO.op (O.assign rfl rfl) rfl rfl rfl ?_
  refine AO.nil ?_
  refine AQ.thenN ?_
  refine AW.seq ?_
  refine AW.region ?_
  refine AO.op (O.move rfl rfl) rfl rfl rfl ?_
  refine AO.op (O.shlK 8 256 rfl rfl rfl rfl (by rfl) (by exact wI64 (by omega))) rfl rfl rfl ?_
  refine AO.op (O.move rfl rfl) rfl rfl rfl ?_
  refine AO.op (O.conv rfl rfl (by exact wI64 (by omega))) rfl rfl rfl ?_
  refine AO.op (O.or_ rfl rfl rfl (orI64 8 (m := 256) (by decide) (by omega) (by omega))) rfl rfl rfl ?_
  refine AO.op (O.assign rfl rfl) rfl rfl rfl ?_
  refine AO.nil ?_
  refine AQ.thenN ?_
  refine AW.seq ?_
  refine AW.region ?_
  refine AO.op (O.move rfl rfl) rfl rfl rfl ?_
  refine AO.op (O.gtr rfl rfl rfl (by exact bFalse (by omega))) rfl rfl rfl ?_
  refine AO.nil ?_
  refine AQ.thenN ?_
  refine AW.condF rfl ?_
  refine AW.skip ?_
  refine AQ.blockN ?_
  refine AQ.thenN ?_
  refine AW.region ?_
  refine AO.op (O.add rfl rfl rfl (by exact wI64 (by omega))) rfl rfl rfl ?_
  refine AO.op (O.move rfl rfl) rfl rfl rfl ?_
  refine AO.nil ?_
  refine AQ.loopKN _ _ _ (by omega) (⟨k + 1, z * 256 + ((bt l k).toNat : Int), by omega, hs.symm, rfl, rfl, rfl⟩) (by repeat (first | exact envNil | refine envCons rfl ?_)) (by repeat (first | exact envNil | refine envCons rfl ?_)) (by repeat (exact subPnil))
 ·skip
  obtain rfl : k = l.length := by omega
  rw [List.take_length] at hz
  subst hz
  refine AW.exit ?_
  refine AQ.thenX ?_
  refine AQ.loopX ?_
  refine AQ.blockX rfl ?_
  refine AQ.thenN ?_
  refine AW.seq ?_
  refine AW.region ?_
  refine AO.op (O.move rfl rfl) rfl rfl rfl ?_
  refine AO.op (O.assign rfl rfl) rfl rfl rfl ?_
  refine AO.op (O.assign rfl rfl) rfl rfl rfl ?_
  refine AO.nil ?_
  refine AQ.thenN ?_
  refine AW.ret ?_
  refine AQ.ret2 rfl rfl rfl ⟨_, List.nil_sublist _, .nil⟩ (⟨rfl, rfl⟩)
def fromTo (n : Int) (k : Nat) : List UInt8 := ((([16777216, 65536, 256, 1] : List Int).take k).filter fun p => decide (0 < n / p)).map fun p => u8 (n / p)
theorem fromTo_succ (n : Int) {k : Nat} {p : Int} (h : ([16777216, 65536, 256, 1] : List Int)[k]? = some p) : fromTo n (k + 1) = fromTo n k ++ if 0 < n / p then [u8 (n / p)] else [] := by
 unfold fromTo
 rw [List.take_add_one, h, Option.toList_some, List.filter_append, List.map_append]
 congr 1
 by_cases e : 0 < n / p
 ·rw [if_pos e, List.filter_cons_of_pos (by simpa using e)]; rfl
 ·rw [if_neg e, List.filter_cons_of_neg (by simpa using e)]; rfl
theorem fromuint_fn (n : Int) (hn : 0 ≤ n ∧ n < 4294967296) : Sp Tryz.prog 16 [.val (.int .i64 n)] [] (Is (roB (fromU n))) := by
 refine Sp.enter Tryz.func16 rfl _ Tryz.ntmps16 rfl (fun w0 R0 => ?_)
 refine AW.seq ?_
 refine AW.region ?_
 refine AO.op (O.assign rfl rfl) rfl rfl rfl ?_
 refine AO.nil ?_
 refine AQ.thenN ?_
 refine AW.seq ?_
 refine AW.seq ?_
 refine AW.region ?_
 refine AO.op (O.move rfl rfl) rfl rfl rfl ?_
 refine AO.op (O.lss rfl rfl rfl (by exact bFalse (by omega))) rfl rfl rfl ?_
 refine AO.op (O.move rfl rfl) rfl rfl rfl ?_
 refine AO.op (O.move rfl rfl) rfl rfl rfl ?_
 refine AO.op (O.gtr rfl rfl rfl (by exact bFalse (by omega))) rfl rfl rfl ?_
 refine AO.op (O.pickF rfl rfl rfl) rfl rfl rfl ?_
 refine AO.nil ?_
 refine AQ.thenN ?_
 refine AW.condF rfl ?_
 refine AW.skip ?_
 refine AQ.thenN ?_
 refine AW.seq ?_
 refine AW.region ?_
 refine AO.op (O.assign rfl rfl) rfl rfl rfl ?_
 refine AO.nil ?_
 refine AQ.thenN ?_
 refine AW.seq ?_
 refine AW.seq ?_
 refine AW.region ?_
 refine AO.op (O.assign rfl rfl) rfl rfl rfl ?_
 refine AO.nil ?_
 refine AQ.thenN ?_
 refine AW.block ?_
 refine AW.g ?_
 refine G.nilRow 5 1 ?_
 refine AW.u ?_
 refine AW.loopK [(0, _)] (fun nn E H => ∃ (k : Nat) (V : Value) (l : List UInt8), (k ≤ 4) ∧ (V.oneCell' = true) ∧ (l = fromTo n k) ∧ (l.length ≤ k) ∧ nn = 5 - k ∧ E = [(3, .val V), (4, .val (.int .i64 (24 - 8 * (k : Int))))] ∧ H = [.row V 5 1 l.length (bytesA l)]) _ (⟨0, _, [], by omega, rfl, rfl, by simp, rfl, rfl, rfl⟩) (by repeat (first | exact envNil | refine envCons rfl ?_)) (by repeat (first | exact envNil | refine envCons rfl ?_)) (by repeat (first | exact subPnil | refine subPcons 0 rfl ?_)) ?_
 rintro nn E H ⟨k, V, l, hk, hV, hl, hll, rfl, rfl, rfl⟩
 dsimp only [List.cons_append, List.nil_append]
 obtain rfl | rfl | rfl | rfl | rfl : k = 0 ∨ k = 1 ∨ k = 2 ∨ k = 3 ∨ k = 4 := by omega
 ·skip
  have hs := fromTo_succ n (k := 0) (p := 16777216) rfl
  have hd : 0 ≤ n / 16777216 := Int.ediv_nonneg hn.1 (by decide)
  refine AW.seq ?_
  refine AW.seq ?_
  refine AW.region ?_
  refine AO.op (O.move rfl rfl) rfl rfl rfl ?_
  refine AO.op (O.geq rfl rfl rfl (by exact bTrue (by omega))) rfl rfl rfl ?_
  refine AO.nil ?_
  refine AQ.thenN ?_
  refine AW.condT rfl ?_
  refine AW.skip ?_
  refine AQ.thenN ?_
  refine AW.seq ?_
  refine AW.block ?_
  refine AW.seq ?_
  refine AW.region ?_
  refine AO.op (O.move rfl rfl) rfl rfl rfl ?_
  refine AO.op (O.move rfl rfl) rfl rfl rfl ?_
  refine AO.op (O.shrK 24 16777216 rfl rfl rfl (by rfl) (by rfl)) rfl rfl rfl ?_
  refine AO.op (O.gtr rfl rfl rfl (by rfl)) rfl rfl rfl ?_
  refine AO.nil ?_
  refine AQ.thenN ?_
  refine AW.split rfl (fun h1 => ?_) (fun h1 => ?_) <;> (try simp only [decide_eq_true_eq, decide_eq_false_iff_not, beq_iff_eq, beq_eq_false_iff_ne, bne_iff_ne, bne_eq_false_iff_eq, Bool.not_eq_true', Bool.not_eq_false', Bool.not_eq_true, Bool.not_eq_false, ne_eq, Int.not_lt, Int.not_le, Bool.and_eq_true, Bool.or_eq_true, Bool.or_eq_false_iff, Bool.and_eq_false_imp, strOf_toList, Decidable.not_not] at h1)
  ·skip
   rw [if_pos h1, ← hl] at hs
   refine AW.region ?_
   refine AO.op (O.move rfl rfl) rfl rfl rfl ?_
   refine AO.op (O.move rfl rfl) rfl rfl rfl ?_
   refine AO.op (O.move rfl rfl) rfl rfl rfl ?_
   refine AO.op (O.shrK 24 16777216 rfl rfl rfl (by rfl) (by rfl)) rfl rfl rfl ?_
   refine AO.op (O.conv rfl rfl wU8any) rfl rfl rfl ?_
   refine AO.opB (O.buildSlice rfl rfl rfl (by rfl) (by rfl) (by rfl) (by rfl)) rfl rfl rfl ?_
   intro B1
   refine AO.g ?_
   (refine G.freezeSl 0 24 rfl rfl ⟨Nat.le_refl _, by unfold maxLen; omega⟩ ?_)
   refine G.unfull 24 rfl ?_
   refine AO.u ?_
   dsimp only [List.eraseIdx]
   (refine AO.append' (i := 0) rfl rfl rfl rfl (by rfl) (by rfl) rfl rfl rfl (by exact SrcA.ro TyD.ax (by rfl) (Nat.le_of_ble_eq_true rfl)) (by rfl) (by (unfold maxLen; omega)) (by omega) (by (dsimp only [List.set, List.cons_append, List.nil_append, List.take, List.drop]; done)) (fun _ => by (dsimp only [List.set]; done)) ?_)
   intro V2 hV2
   refine AO.op (O.assign rfl rfl) rfl rfl rfl ?_
   refine AO.nil ?_
   refine AQ.blockN ?_
   refine AQ.thenN ?_
   refine AW.region ?_
   refine AO.op (O.move rfl rfl) rfl rfl rfl ?_
   refine AO.op (O.sub rfl rfl rfl (by exact wI64 (by omega))) rfl rfl rfl ?_
   refine AO.op (O.assign rfl rfl) rfl rfl rfl ?_
   refine AO.nil ?_
   have hr : l.length + 1 = (fromTo n (0 + 1)).length := by rw [hs, List.length_append]; rfl
   have hr2 : bytesA l ++ [.val (.int .u8 ((u8 (n / 16777216)).toNat : Int))] = bytesA (fromTo n (0 + 1)) := by rw [hs, bytesA_snoc]
   refine AQ.loopKN _ _ _ (by omega) (⟨1, _, fromTo n (0 + 1), by omega, ‹_›, rfl, by omega, rfl, rfl, by rw [← hr, ← hr2]⟩) (by repeat (first | exact envNil | refine envCons rfl ?_)) (by repeat (first | exact envNil | refine envCons rfl ?_)) (by repeat (first | exact subPnil | refine subPcons 0 rfl ?_))
  ·skip
   rw [if_neg (by omega), List.append_nil, ← hl] at hs
   refine AW.skip ?_
   refine AQ.blockN ?_
   refine AQ.thenN ?_
   refine AW.region ?_
   refine AO.op (O.move rfl rfl) rfl rfl rfl ?_
   refine AO.op (O.sub rfl rfl rfl (by exact wI64 (by omega))) rfl rfl rfl ?_
   refine AO.op (O.assign rfl rfl) rfl rfl rfl ?_
   refine AO.nil ?_
   refine AQ.loopKN _ _ _ (by omega) (⟨1, V, l, by omega, hV, hs.symm, by omega, rfl, rfl, rfl⟩) (by repeat (first | exact envNil | refine envCons rfl ?_)) (by repeat (first | exact envNil | refine envCons rfl ?_)) (by repeat (first | exact subPnil | refine subPcons 0 rfl ?_))
 ·skip
  have hs := fromTo_succ n (k := 1) (p := 65536) rfl
  have hd : 0 ≤ n / 65536 := Int.ediv_nonneg hn.1 (by decide)
  refine AW.seq ?_
  refine AW.seq ?_
  refine AW.region ?_
  refine AO.op (O.move rfl rfl) rfl rfl rfl ?_
  refine AO.op (O.geq rfl rfl rfl (by exact bTrue (by omega))) rfl rfl rfl ?_
  refine AO.nil ?_
  refine AQ.thenN ?_
  refine AW.condT rfl ?_
  refine AW.skip ?_
  refine AQ.thenN ?_
  refine AW.seq ?_
  refine AW.block ?_
  refine AW.seq ?_
  refine AW.region ?_
  refine AO.op (O.move rfl rfl) rfl rfl rfl ?_
  refine AO.op (O.move rfl rfl) rfl rfl rfl ?_
  refine AO.op (O.shrK 16 65536 rfl rfl rfl (by rfl) (by rfl)) rfl rfl rfl ?_
  refine AO.op (O.gtr rfl rfl rfl (by rfl)) rfl rfl rfl ?_
  refine AO.nil ?_
  refine AQ.thenN ?_
  refine AW.split rfl (fun h1 => ?_) (fun h1 => ?_) <;> (try simp only [decide_eq_true_eq, decide_eq_false_iff_not, beq_iff_eq, beq_eq_false_iff_ne, bne_iff_ne, bne_eq_false_iff_eq, Bool.not_eq_true', Bool.not_eq_false', Bool.not_eq_true, Bool.not_eq_false, ne_eq, Int.not_lt, Int.not_le, Bool.and_eq_true, Bool.or_eq_true, Bool.or_eq_false_iff, Bool.and_eq_false_imp, strOf_toList, Decidable.not_not] at h1)
  ·skip
   rw [if_pos h1, ← hl] at hs
   refine AW.region ?_
   refine AO.op (O.move rfl rfl) rfl rfl rfl ?_
   refine AO.op (O.move rfl rfl) rfl rfl rfl ?_
   refine AO.op (O.move rfl rfl) rfl rfl rfl ?_
   refine AO.op (O.shrK 16 65536 rfl rfl rfl (by rfl) (by rfl)) rfl rfl rfl ?_
   refine AO.op (O.conv rfl rfl wU8any) rfl rfl rfl ?_
   refine AO.opB (O.buildSlice rfl rfl rfl (by rfl) (by rfl) (by rfl) (by rfl)) rfl rfl rfl ?_
   intro B1
   refine AO.g ?_
   (refine G.freezeSl 0 24 rfl rfl ⟨Nat.le_refl _, by unfold maxLen; omega⟩ ?_)
   refine G.unfull 24 rfl ?_
   refine AO.u ?_
   dsimp only [List.eraseIdx]
   (refine AO.append' (i := 0) rfl rfl rfl rfl (by rfl) (by rfl) rfl rfl rfl (by exact SrcA.ro TyD.ax (by rfl) (Nat.le_of_ble_eq_true rfl)) (by rfl) (by (unfold maxLen; omega)) (by omega) (by (dsimp only [List.set, List.cons_append, List.nil_append, List.take, List.drop]; done)) (fun _ => by (dsimp only [List.set]; done)) ?_)
   intro V2 hV2
   refine AO.op (O.assign rfl rfl) rfl rfl rfl ?_
   refine AO.nil ?_
   refine AQ.blockN ?_
   refine AQ.thenN ?_
   refine AW.region ?_
   refine AO.op (O.move rfl rfl) rfl rfl rfl ?_
   refine AO.op (O.sub rfl rfl rfl (by exact wI64 (by omega))) rfl rfl rfl ?_
   refine AO.op (O.assign rfl rfl) rfl rfl rfl ?_
   refine AO.nil ?_
   have hr : l.length + 1 = (fromTo n (1 + 1)).length := by rw [hs, List.length_append]; rfl
   have hr2 : bytesA l ++ [.val (.int .u8 ((u8 (n / 65536)).toNat : Int))] = bytesA (fromTo n (1 + 1)) := by rw [hs, bytesA_snoc]
   refine AQ.loopKN _ _ _ (by omega) (⟨2, _, fromTo n (1 + 1), by omega, ‹_›, rfl, by omega, rfl, rfl, by rw [← hr, ← hr2]⟩) (by repeat (first | exact envNil | refine envCons rfl ?_)) (by repeat (first | exact envNil | refine envCons rfl ?_)) (by repeat (first | exact subPnil | refine subPcons 0 rfl ?_))
  ·skip
   rw [if_neg (by omega), List.append_nil, ← hl] at hs
   refine AW.skip ?_
   refine AQ.blockN ?_
   refine AQ.thenN ?_
   refine AW.region ?_
   refine AO.op (O.move rfl rfl) rfl rfl rfl ?_
   refine AO.op (O.sub rfl rfl rfl (by exact wI64 (by omega))) rfl rfl rfl ?_
   refine AO.op (O.assign rfl rfl) rfl rfl rfl ?_
   refine AO.nil ?_
   refine AQ.loopKN _ _ _ (by omega) (⟨2, V, l, by omega, hV, hs.symm, by omega, rfl, rfl, rfl⟩) (by repeat (first | exact envNil | refine envCons rfl ?_)) (by repeat (first | exact envNil | refine envCons rfl ?_)) (by repeat (first | exact subPnil | refine subPcons 0 rfl ?_))
 ·skip
  have hs := fromTo_succ n (k := 2) (p := 256) rfl
  have hd : 0 ≤ n / 256 := Int.ediv_nonneg hn.1 (by decide)
  refine AW.seq ?_
  refine AW.seq ?_
  refine AW.region ?_
  refine AO.op (O.move rfl rfl) rfl rfl rfl ?_
  refine AO.op (O.geq rfl rfl rfl (by exact bTrue (by omega))) rfl rfl rfl ?_
  refine AO.nil ?_
  refine AQ.thenN ?_
  refine AW.condT rfl ?_
  refine AW.skip ?_
  refine AQ.thenN ?_
  refine AW.seq ?_
  refine AW.block ?_
  refine AW.seq ?_
  refine AW.region ?_
  refine AO.op (O.move rfl rfl) rfl rfl rfl ?_
  refine AO.op (O.move rfl rfl) rfl rfl rfl ?_
  refine AO.op (O.shrK 8 256 rfl rfl rfl (by rfl) (by rfl)) rfl rfl rfl ?_
  refine AO.op (O.gtr rfl rfl rfl (by rfl)) rfl rfl rfl ?_
  refine AO.nil ?_
  refine AQ.thenN ?_
  refine AW.split rfl (fun h1 => ?_) (fun h1 => ?_) <;> (try simp only [decide_eq_true_eq, decide_eq_false_iff_not, beq_iff_eq, beq_eq_false_iff_ne, bne_iff_ne, bne_eq_false_iff_eq, Bool.not_eq_true', Bool.not_eq_false', Bool.not_eq_true, Bool.not_eq_false, ne_eq, Int.not_lt, Int.not_le, Bool.and_eq_true, Bool.or_eq_true, Bool.or_eq_false_iff, Bool.and_eq_false_imp, strOf_toList, Decidable.not_not] at h1)
  ·skip
   rw [if_pos h1, ← hl] at hs
   refine AW.region ?_
   refine AO.op (O.move rfl rfl) rfl rfl rfl ?_
   refine AO.op (O.move rfl rfl) rfl rfl rfl ?_
   refine AO.op (O.move rfl rfl) rfl rfl rfl ?_
   refine AO.op (O.shrK 8 256 rfl rfl rfl (by rfl) (by rfl)) rfl rfl rfl ?_
   refine AO.op (O.conv rfl rfl wU8any) rfl rfl rfl ?_
   refine AO.opB (O.buildSlice rfl rfl rfl (by rfl) (by rfl) (by rfl) (by rfl)) rfl rfl rfl ?_
   intro B1
   refine AO.g ?_
   (refine G.freezeSl 0 24 rfl rfl ⟨Nat.le_refl _, by unfold maxLen; omega⟩ ?_)
   refine G.unfull 24 rfl ?_
   refine AO.u ?_
   dsimp only [List.eraseIdx]
   (refine AO.append' (i := 0) rfl rfl rfl rfl (by rfl) (by rfl) rfl rfl rfl (by exact SrcA.ro TyD.ax (by rfl) (Nat.le_of_ble_eq_true rfl)) (by rfl) (by (unfold maxLen; omega)) (by omega) (by (dsimp only [List.set, List.cons_append, List.nil_append, List.take, List.drop]; done)) (fun _ => by (dsimp only [List.set]; done)) ?_)
   intro V2 hV2
   refine AO.op (O.assign rfl rfl) rfl rfl rfl ?_
   refine AO.nil ?_
   refine AQ.blockN ?_
   refine AQ.thenN ?_
   refine AW.region ?_
   refine AO.op (O.move rfl rfl) rfl rfl rfl ?_
   refine AO.op (O.sub rfl rfl rfl (by exact wI64 (by omega))) rfl rfl rfl ?_
   refine AO.op (O.assign rfl rfl) rfl rfl rfl ?_
   refine AO.nil ?_
   have hr : l.length + 1 = (fromTo n (2 + 1)).length := by rw [hs, List.length_append]; rfl
   have hr2 : bytesA l ++ [.val (.int .u8 ((u8 (n / 256)).toNat : Int))] = bytesA (fromTo n (2 + 1)) := by rw [hs, bytesA_snoc]
   refine AQ.loopKN _ _ _ (by omega) (⟨3, _, fromTo n (2 + 1), by omega, ‹_›, rfl, by omega, rfl, rfl, by rw [← hr, ← hr2]⟩) (by repeat (first | exact envNil | refine envCons rfl ?_)) (by repeat (first | exact envNil | refine envCons rfl ?_)) (by repeat (first | exact subPnil | refine subPcons 0 rfl ?_))
  ·skip
   rw [if_neg (by omega), List.append_nil, ← hl] at hs
   refine AW.skip ?_
   refine AQ.blockN ?_
   refine AQ.thenN ?_
   refine AW.region ?_
   refine AO.op (O.move rfl rfl) rfl rfl rfl ?_
   refine AO.op (O.sub rfl rfl rfl (by exact wI64 (by omega))) rfl rfl rfl ?_
   refine AO.op (O.assign rfl rfl) rfl rfl rfl ?_
   refine AO.nil ?_
   refine AQ.loopKN _ _ _ (by omega) (⟨3, V, l, by omega, hV, hs.symm, by omega, rfl, rfl, rfl⟩) (by repeat (first | exact envNil | refine envCons rfl ?_)) (by repeat (first | exact envNil | refine envCons rfl ?_)) (by repeat (first | exact subPnil | refine subPcons 0 rfl ?_))
 ·skip
  have hs := fromTo_succ n (k := 3) (p := 1) rfl
  have hd : 0 ≤ n / 1 := Int.ediv_nonneg hn.1 (by decide)
  refine AW.seq ?_
  refine AW.seq ?_
  refine AW.region ?_
  refine AO.op (O.move rfl rfl) rfl rfl rfl ?_
  refine AO.op (O.geq rfl rfl rfl (by exact bTrue (by omega))) rfl rfl rfl ?_
  refine AO.nil ?_
  refine AQ.thenN ?_
  refine AW.condT rfl ?_
  refine AW.skip ?_
  refine AQ.thenN ?_
  refine AW.seq ?_
  refine AW.block ?_
  refine AW.seq ?_
  refine AW.region ?_
  refine AO.op (O.move rfl rfl) rfl rfl rfl ?_
  refine AO.op (O.move rfl rfl) rfl rfl rfl ?_
  refine AO.op (O.shrK 0 1 rfl rfl rfl (by rfl) (by rfl)) rfl rfl rfl ?_
  refine AO.op (O.gtr rfl rfl rfl (by rfl)) rfl rfl rfl ?_
  refine AO.nil ?_
  refine AQ.thenN ?_
  refine AW.split rfl (fun h1 => ?_) (fun h1 => ?_) <;> (try simp only [decide_eq_true_eq, decide_eq_false_iff_not, beq_iff_eq, beq_eq_false_iff_ne, bne_iff_ne, bne_eq_false_iff_eq, Bool.not_eq_true', Bool.not_eq_false', Bool.not_eq_true, Bool.not_eq_false, ne_eq, Int.not_lt, Int.not_le, Bool.and_eq_true, Bool.or_eq_true, Bool.or_eq_false_iff, Bool.and_eq_false_imp, strOf_toList, Decidable.not_not] at h1)
  ·skip
   rw [if_pos h1, ← hl] at hs
   refine AW.region ?_
   refine AO.op (O.move rfl rfl) rfl rfl rfl ?_
   refine AO.op (O.move rfl rfl) rfl rfl rfl ?_
   refine AO.op (O.move rfl rfl) rfl rfl rfl ?_
   refine AO.op (O.shrK 0 1 rfl rfl rfl (by rfl) (by rfl)) rfl rfl rfl ?_
   refine AO.op (O.conv rfl rfl wU8any) rfl rfl rfl ?_
   refine AO.opB (O.buildSlice rfl rfl rfl (by rfl) (by rfl) (by rfl) (by rfl)) rfl rfl rfl ?_
   intro B1
   refine AO.g ?_
   (refine G.freezeSl 0 24 rfl rfl ⟨Nat.le_refl _, by unfold maxLen; omega⟩ ?_)
   refine G.unfull 24 rfl ?_
   refine AO.u ?_
   dsimp only [List.eraseIdx]
   (refine AO.append' (i := 0) rfl rfl rfl rfl (by rfl) (by rfl) rfl rfl rfl (by exact SrcA.ro TyD.ax (by rfl) (Nat.le_of_ble_eq_true rfl)) (by rfl) (by (unfold maxLen; omega)) (by omega) (by (dsimp only [List.set, List.cons_append, List.nil_append, List.take, List.drop]; done)) (fun _ => by (dsimp only [List.set]; done)) ?_)
   intro V2 hV2
   refine AO.op (O.assign rfl rfl) rfl rfl rfl ?_
   refine AO.nil ?_
   refine AQ.blockN ?_
   refine AQ.thenN ?_
   refine AW.region ?_
   refine AO.op (O.move rfl rfl) rfl rfl rfl ?_
   refine AO.op (O.sub rfl rfl rfl (by exact wI64 (by omega))) rfl rfl rfl ?_
   refine AO.op (O.assign rfl rfl) rfl rfl rfl ?_
   refine AO.nil ?_
   have hr : l.length + 1 = (fromTo n (3 + 1)).length := by rw [hs, List.length_append]; rfl
   have hr2 : bytesA l ++ [.val (.int .u8 ((u8 (n / 1)).toNat : Int))] = bytesA (fromTo n (3 + 1)) := by rw [hs, bytesA_snoc]
   refine AQ.loopKN _ _ _ (by omega) (⟨4, _, fromTo n (3 + 1), by omega, ‹_›, rfl, by omega, rfl, rfl, by rw [← hr, ← hr2]⟩) (by repeat (first | exact envNil | refine envCons rfl ?_)) (by repeat (first | exact envNil | refine envCons rfl ?_)) (by repeat (first | exact subPnil | refine subPcons 0 rfl ?_))
  ·skip
   rw [if_neg (by omega), List.append_nil, ← hl] at hs
   refine AW.skip ?_
   refine AQ.blockN ?_
   refine AQ.thenN ?_
   refine AW.region ?_
   refine AO.op (O.move rfl rfl) rfl rfl rfl ?_
   refine AO.op (O.sub rfl rfl rfl (by exact wI64 (by omega))) rfl rfl rfl ?_
   refine AO.op (O.assign rfl rfl) rfl rfl rfl ?_
   refine AO.nil ?_
   refine AQ.loopKN _ _ _ (by omega) (⟨4, V, l, by omega, hV, hs.symm, by omega, rfl, rfl, rfl⟩) (by repeat (first | exact envNil | refine envCons rfl ?_)) (by repeat (first | exact envNil | refine envCons rfl ?_)) (by repeat (first | exact subPnil | refine subPcons 0 rfl ?_))
 ·skip
  refine AW.seq ?_
  refine AW.seq ?_
  refine AW.region ?_
  refine AO.op (O.move rfl rfl) rfl rfl rfl ?_
  refine AO.op (O.geq rfl rfl rfl (by exact bFalse (by omega))) rfl rfl rfl ?_
  refine AO.nil ?_
  refine AQ.thenN ?_
  refine AW.condF rfl ?_
  refine AW.exit ?_
  refine AQ.thenX ?_
  refine AQ.loopX ?_
  refine AQ.blockX rfl ?_
  refine AQ.thenN ?_
  refine AW.seq ?_
  refine AW.region ?_
  refine AO.op (O.move rfl rfl) rfl rfl rfl ?_
  refine AO.op (O.assign rfl rfl) rfl rfl rfl ?_
  refine AO.nil ?_
  refine AQ.thenN ?_
  refine AW.ret ?_
  refine AQ.g ?_
  (refine G.freezeRow 0 rfl [2] (by (repeat (first | exact frNil | refine frCons rfl ?_)); done) ?_)
  refine AQ.u ?_
  try dsimp only [List.map, List.eraseIdx, List.cons_append, List.nil_append]
  refine AQ.ret1 rfl rfl ⟨_, List.nil_sublist _, .nil⟩ (⟨by rw [hl]; rfl, rfl⟩)
 skip
end Go.Proofs.YtoonnnifelnaiaaGreatDoor.By

namespace Go.Proofs.YtoonnnifelnaiaaGreatDoor.By
open Go.RowKit L A Dk
set_option linter.unusedVariables false
set_option maxRecDepth 20000
set_option linter.unusedSimpArgs false
attribute [local irreducible] AW AQ AO
/-- A stored response: of which key, what it says, the Max-Age that it bears, when it was stored, how long it holds. -/
structure Cd where
 k : UInt8
 v : UInt8
 a0 : Int
 at_ : Int
 age : Int
def Cd.none : Cd := ⟨0, 0, 0, 0, 0⟩
abbrev optC (v : UInt8) (a : Int) : List Opt := [⟨4, [v]⟩, ⟨14, [u8 a]⟩]
abbrev rsC (v : UInt8) (a : Int) : Msg := ⟨0, 69, 0, [], optC v a, [v]⟩
def cD (c : Cd) : List AV := [roB (keyC c.k), .val (.int .i64 0), .val (.int .i64 69), .val (.int .i64 0), roB [], roO (optC c.v c.a0), roB [c.v], .val (.int .i64 c.at_), .val (.int .i64 c.age)]
theorem cD_len (c : Cd) : (cD c).length = 9 := rfl
def cdsA (l : List Cd) : List AV := l.flatMap cD
abbrev roCd (l : List Cd) : AV := .ro false l.length (cdsA l)
abbrev cd (l : List Cd) (k : Nat) : Cd := l.getD k Cd.none
theorem getCd {l : List Cd} {q : Nat} (h : q < l.length) {j : Nat} (hj : j = q) : ((cdsA l).drop (j * 9)).take 9 = [roB (keyC (cd l q).k), .val (.int .i64 0), .val (.int .i64 69), .val (.int .i64 0), roB [], roO (optC (cd l q).v (cd l q).a0), roB [(cd l q).v], .val (.int .i64 (cd l q).at_), .val (.int .i64 (cd l q).age)] := flat_at cD_len Cd.none h hj
theorem cdsA_snoc (l : List Cd) (c : Cd) : cdsA (l ++ [c]) = cdsA l ++ cD c := by unfold cdsA; rw [List.flatMap_append]; simp
theorem cdsA_len (l : List Cd) : (cdsA l).length = l.length * 9 := flat_len cD_len l
theorem keyC_inj {a b : UInt8} : keyC a = keyC b ↔ a = b := ⟨fun h => by injection h with _ h; injection h with _ h; injection h with _ h; injection h with _ h; injection h with _ h; injection h with _ h; injection h, fun h => by rw [h]⟩
/-! ### find -/
def posG (k : UInt8) : List Cd → Nat → Int
 | [], _ => -1
 | c :: l, i => if c.k = k then (i : Int) else posG k l (i + 1)
def posC (l : List Cd) (k : UInt8) : Int := posG k l 0
theorem posG_step {k : UInt8} {l : List Cd} {q : Nat} (h : q < l.length) : posG k (l.drop q) q = if (cd l q).k = k then (q : Int) else posG k (l.drop (q + 1)) (q + 1) := by
 rw [List.drop_eq_getElem_cons h, posG]
 have e : cd l q = l[q] := by simp [h]
 rw [e]
theorem posG_cases (k : UInt8) : ∀ (l : List Cd) (i : Nat), (posG k l i = -1 ∧ ∀ c ∈ l, c.k ≠ k) ∨ ∃ q, q < l.length ∧ posG k l i = ((i + q : Nat) : Int) ∧ (cd l q).k = k
 | [], i => .inl ⟨rfl, fun c h => by cases h⟩
 | c :: l, i => by
  rw [posG]
  by_cases h : c.k = k
  ·rw [if_pos h]; exact .inr ⟨0, by simp, by simp, h⟩
  ·rw [if_neg h]
   rcases posG_cases k l (i + 1) with ⟨h1, h2⟩ | ⟨q, h1, h2, h3⟩
   ·refine .inl ⟨h1, fun x hx => ?_⟩
    rcases List.mem_cons.1 hx with rfl | hx
    ·exact h
    ·exact h2 x hx
   ·exact .inr ⟨q + 1, by simp; omega, by rw [h2]; congr 1; omega, h3⟩
theorem posC_cases (l : List Cd) (k : UInt8) : (posC l k = -1 ∧ ∀ c ∈ l, c.k ≠ k) ∨ ∃ q, q < l.length ∧ posC l k = (q : Int) ∧ (cd l q).k = k := by
 rcases posG_cases k l 0 with h | ⟨q, h1, h2, h3⟩
 ·exact .inl h
 ·exact .inr ⟨q, h1, by rw [posC, h2]; simp, h3⟩
theorem posC_none {l : List Cd} {k : UInt8} (h : ∀ c ∈ l, c.k ≠ k) : posC l k = -1 := by
 rcases posC_cases l k with h1 | ⟨q, h1, h2, h3⟩
 ·exact h1.1
 ·exact absurd h3 (h _ (getD_mem Cd.none h1))
theorem cequal_fn (x y : List UInt8) : Sp Tryz.prog 46 [roB x, roB y] [] (Is (.val (.bool (decide (x = y))))) := by
 refine Sp.enter Tryz.func46 rfl _ Tryz.ntmps46 rfl (fun w0 R0 => ?_)
 refine AW.seq ?_
 refine AW.region ?_
 refine AO.op (O.assign rfl rfl) rfl rfl rfl ?_
 refine AO.nil ?_
 refine AQ.thenN ?_
 refine AW.seq ?_
 refine AW.region ?_
 refine AO.op (O.move rfl rfl) rfl rfl rfl ?_
 refine AO.op (O.convS rfl rfl (by rfl)) rfl rfl rfl ?_
 refine AO.op (O.move rfl rfl) rfl rfl rfl ?_
 refine AO.op (O.convS rfl rfl (by rfl)) rfl rfl rfl ?_
 refine AO.op (O.eqlS rfl rfl rfl (by rfl)) rfl rfl rfl ?_
 refine AO.op (O.assign rfl rfl) rfl rfl rfl ?_
 refine AO.nil ?_
 refine AQ.thenN ?_
 refine AW.ret ?_
 have e : decide (x = y) = (x == y) := dec_eq (by simp)
 refine AQ.ret1 rfl rfl ⟨_, List.nil_sublist _, .nil⟩ (⟨by rw [strOf_toList, strOf_toList, e], rfl⟩)
set_option maxHeartbeats 4000000 in
theorem cfind_fn (l : List Cd) (k : UInt8) (hl : l.length ≤ 1000) : Sp Tryz.prog 71 [roCd l, roB (keyC k)] [] (Is (.val (.int .i64 (posC l k)))) := by
 refine Sp.enter Tryz.func71 rfl _ Tryz.ntmps71 rfl (fun w0 R0 => ?_)
 refine AW.seq ?_
 refine AW.region ?_
 refine AO.op (O.assign rfl rfl) rfl rfl rfl ?_
 refine AO.nil ?_
 refine AQ.thenN ?_
 refine AW.seq ?_
 refine AW.seq ?_
 refine AW.region ?_
 refine AO.op (O.move rfl rfl) rfl rfl rfl ?_
 refine AO.op (O.lenR rfl rfl) rfl rfl rfl ?_
 refine AO.op (O.move rfl rfl) rfl rfl rfl ?_
 refine AO.nil ?_
 refine AQ.thenN ?_
 refine AW.block ?_
 refine AW.loopK [(1, _), (7, _), (8, _)] (fun nn E H => ∃ (q : Nat), (q ≤ l.length) ∧ (posC l k = posG k (l.drop q) q) ∧ nn = l.length - q ∧ E = [(9, .val (.int .i64 (q : Int)))] ∧ H = []) _ (⟨0, by omega, rfl, rfl, rfl, rfl⟩) (by repeat (first | exact envNil | refine envCons rfl ?_)) (by repeat (first | exact envNil | refine envCons rfl ?_)) (by repeat (exact subPnil)) ?_
 rintro nn E H ⟨q, hq, hp, rfl, rfl, rfl⟩
 dsimp only [List.cons_append, List.nil_append]
 refine AW.seq ?_
 refine AW.region ?_
 refine AO.op (O.lss rfl rfl rfl (by rfl)) rfl rfl rfl ?_
 refine AO.nil ?_
 refine AQ.thenN ?_
 refine AW.seq ?_
 refine AW.split rfl (fun hlt => ?_) (fun hlt => ?_) <;> (try simp only [decide_eq_true_eq, decide_eq_false_iff_not, beq_iff_eq, beq_eq_false_iff_ne, bne_iff_ne, bne_eq_false_iff_eq, Bool.not_eq_true', Bool.not_eq_false', Bool.not_eq_true, Bool.not_eq_false, ne_eq, Int.not_lt, Int.not_le, Bool.and_eq_true, Bool.or_eq_true, Bool.or_eq_false_iff, Bool.and_eq_false_imp, strOf_toList, Decidable.not_not] at hlt)
 ·skip
  have hql : q < l.length := by omega
  rw [posG_step hql] at hp
  refine AW.skip ?_
  refine AQ.thenN ?_
  refine AW.seq ?_
  refine AW.block ?_
  refine AW.seq ?_
  refine AW.region ?_
  refine AO.op (O.move rfl rfl) rfl rfl rfl ?_
  refine AO.op (O.idxR rfl rfl rfl ⟨(by omega), (by omega)⟩) rfl rfl rfl ?_
  refine AO.op (O.loadRK rfl rfl (by exact getCd hql (by omega)) (by rfl)) rfl rfl rfl ?_
  refine AO.opB (O.alloc rfl (by (dsimp only [zerosA, List.replicate, List.append, List.flatten, AV.cells, Value.cells, List.toList_toArray, List.map]; done)) (by rfl)) rfl rfl rfl ?_
  intro B1
  refine AO.op (O.assign rfl rfl) rfl rfl rfl ?_
  (refine AO.store (i := 0) rfl rfl rfl rfl rfl rfl (by rfl) (by rfl) (by rfl) (by (dsimp only [List.set, List.cons_append, List.nil_append, List.take, List.drop]; done)) (by (dsimp only [List.set, List.cons_append, List.nil_append, List.take, List.drop]; done)) ?_)
  refine AO.nil ?_
  refine AQ.thenN ?_
  refine AW.seq ?_
  refine AW.region ?_
  refine AO.op (O.fieldAddr rfl rfl) rfl rfl rfl ?_
  refine AO.op (O.load rfl rfl (by repeat (exact List.Mem.head _)) (by rfl)) rfl rfl rfl ?_
  refine AO.op (O.move rfl rfl) rfl rfl rfl ?_
  refine AO.op (O.call rfl Tryz.func46 rfl rfl rfl (cequal_fn _ _)) rfl rfl rfl ?_
  refine AO.nil ?_
  refine AQ.thenN ?_
  refine AW.split rfl (fun he => ?_) (fun he => ?_) <;> (try simp only [decide_eq_true_eq, decide_eq_false_iff_not, beq_iff_eq, beq_eq_false_iff_ne, bne_iff_ne, bne_eq_false_iff_eq, Bool.not_eq_true', Bool.not_eq_false', Bool.not_eq_true, Bool.not_eq_false, ne_eq, Int.not_lt, Int.not_le, Bool.and_eq_true, Bool.or_eq_true, Bool.or_eq_false_iff, Bool.and_eq_false_imp, strOf_toList, Decidable.not_not] at he)
  ·skip
   rw [if_pos (keyC_inj.1 he)] at hp
   rw [hp]
   refine AW.seq ?_
   refine AW.region ?_
   refine AO.op (O.move rfl rfl) rfl rfl rfl ?_
   refine AO.op (O.assign rfl rfl) rfl rfl rfl ?_
   refine AO.nil ?_
   refine AQ.thenN ?_
   refine AW.ret ?_
   refine AQ.blockR ?_
   refine AQ.thenR ?_
   refine AQ.loopR ?_
   refine AQ.blockR ?_
   refine AQ.thenR ?_
   refine AQ.ret1 rfl rfl ⟨_, List.nil_sublist _, .nil⟩ (⟨rfl, rfl⟩)
  ·skip
   rw [if_neg (fun g => he (keyC_inj.2 g))] at hp
   refine AW.skip ?_
   refine AQ.blockN ?_
   refine AQ.thenN ?_
   refine AW.region ?_
   refine AO.op (O.add rfl rfl rfl (by exact wI64 (by omega))) rfl rfl rfl ?_
   refine AO.op (O.move rfl rfl) rfl rfl rfl ?_
   refine AO.nil ?_
   refine AQ.loopKN _ _ _ (by omega) (⟨q + 1, by omega, hp, rfl, rfl, rfl⟩) (by repeat (first | exact envNil | refine envCons rfl ?_)) (by repeat (first | exact envNil | refine envCons rfl ?_)) (by repeat (exact subPnil))
 ·skip
  obtain rfl : q = l.length := by omega
  rw [List.drop_length] at hp
  rw [hp]
  refine AW.exit ?_
  refine AQ.thenX ?_
  refine AQ.loopX ?_
  refine AQ.blockX rfl ?_
  refine AQ.thenN ?_
  refine AW.seq ?_
  refine AW.region ?_
  refine AO.op (O.assign rfl rfl) rfl rfl rfl ?_
  refine AO.nil ?_
  refine AQ.thenN ?_
  refine AW.ret ?_
  refine AQ.ret1 rfl rfl ⟨_, List.nil_sublist _, .nil⟩ (⟨rfl, rfl⟩)
theorem ckeyed_fn (k : UInt8) : Sp Tryz.prog 93 [roB (keyC k)] [] (Is (.val (.bool true))) := by
 have h7 : (keyC k).length = 7 := rfl
 refine Sp.enter Tryz.func93 rfl _ Tryz.ntmps93 rfl (fun w0 R0 => ?_)
 refine AW.seq ?_
 refine AW.region ?_
 refine AO.op (O.assign rfl rfl) rfl rfl rfl ?_
 refine AO.nil ?_
 refine AQ.thenN ?_
 refine AW.seq ?_
 refine AW.region ?_
 refine AO.op (O.move rfl rfl) rfl rfl rfl ?_
 refine AO.op (O.lenR rfl rfl) rfl rfl rfl ?_
 refine AO.op (O.geq rfl rfl rfl (by exact bTrue (by omega))) rfl rfl rfl ?_
 refine AO.op (O.move rfl rfl) rfl rfl rfl ?_
 refine AO.op (O.move rfl rfl) rfl rfl rfl ?_
 refine AO.op (O.lenR rfl rfl) rfl rfl rfl ?_
 refine AO.op (O.leq rfl rfl rfl (by exact bTrue (by omega))) rfl rfl rfl ?_
 refine AO.op (O.pickT rfl rfl rfl) rfl rfl rfl ?_
 refine AO.op (O.assign rfl rfl) rfl rfl rfl ?_
 refine AO.nil ?_
 refine AQ.thenN ?_
 refine AW.ret ?_
 refine AQ.ret1 rfl rfl ⟨_, List.nil_sublist _, .nil⟩ (⟨by simp, rfl⟩)
theorem cbare_fn (v : UInt8) (a : Int) : Sp Tryz.prog 115 [aggM (rsC v a)] [] (Is (.val (.bool true))) := by
 refine Sp.enter Tryz.func115 rfl _ Tryz.ntmps115 rfl (fun w0 R0 => ?_)
 refine AW.seq ?_
 refine AW.region ?_
 refine AO.opB (O.box rfl rfl rfl rfl rfl) rfl rfl rfl ?_
 intro B1
 refine AO.op (O.assign rfl rfl) rfl rfl rfl ?_
 refine AO.nil ?_
 refine AQ.thenN ?_
 refine AW.seq ?_
 refine AW.region ?_
 refine AO.op (O.fieldAddr rfl rfl) rfl rfl rfl ?_
 refine AO.op (O.load rfl rfl (by repeat (exact List.Mem.head _)) (by rfl)) rfl rfl rfl ?_
 refine AO.op (O.eql rfl rfl rfl (by rfl)) rfl rfl rfl ?_
 refine AO.op (O.move rfl rfl) rfl rfl rfl ?_
 refine AO.op (O.fieldAddr rfl rfl) rfl rfl rfl ?_
 refine AO.op (O.load rfl rfl (by repeat (exact List.Mem.head _)) (by rfl)) rfl rfl rfl ?_
 refine AO.op (O.eql rfl rfl rfl (by rfl)) rfl rfl rfl ?_
 refine AO.op (O.pickT rfl rfl rfl) rfl rfl rfl ?_
 refine AO.op (O.move rfl rfl) rfl rfl rfl ?_
 refine AO.op (O.fieldAddr rfl rfl) rfl rfl rfl ?_
 refine AO.op (O.load rfl rfl (by repeat (exact List.Mem.head _)) (by rfl)) rfl rfl rfl ?_
 refine AO.op (O.lenR rfl rfl) rfl rfl rfl ?_
 refine AO.op (O.eql rfl rfl rfl (by rfl)) rfl rfl rfl ?_
 refine AO.op (O.pickT rfl rfl rfl) rfl rfl rfl ?_
 refine AO.op (O.assign rfl rfl) rfl rfl rfl ?_
 refine AO.nil ?_
 refine AQ.thenN ?_
 refine AW.ret ?_
 refine AQ.ret1 rfl rfl ⟨_, List.nil_sublist _, .nil⟩ (⟨rfl, rfl⟩)
/-! ### Messages -/
abbrev fsC (v : UInt8) (a : Int) : Msg := ⟨0, 67, 0, [], optC v a, []⟩
theorem optC_asc (v : UInt8) (a : Int) : AscO 0 (optC v a) := ⟨(by decide : (0 : Int) ≤ 4), (by decide : (4 : Int) ≤ 65535), by show (1 : Int) ≤ 1034; decide, by show (4 : Int) ≤ 14; decide, (by decide : (14 : Int) ≤ 65535), by show (1 : Int) ≤ 1034; decide, trivial⟩
theorem rsC_val (v : UInt8) (a : Int) : ValM (rsC v a) :=
 ⟨⟨⟨(by decide : (0 : Int) ≤ 0), (by decide : (0 : Int) ≤ 3), (by decide : (0 : Int) ≤ 69), (by decide : (69 : Int) ≤ 255), by show ClsOk 69; decide⟩, ⟨(by decide : (0 : Int) ≤ 0), (by decide : (0 : Int) ≤ 65535), by show (0 : Int) ≤ 8; decide, by show (2 : Int) ≤ 32; decide⟩, optC_asc v a, fun h => absurd h (by show ¬(69 : Int) = 0; decide), fun h => absurd h (by show ¬(0 : Int) = 3; decide), by show (1 : Int) ≤ 4096; decide⟩, by
  rw [show (raw (rsC v a)).length = 10 from rfl]; decide⟩
theorem fsC_val (v : UInt8) (a : Int) : ValM (fsC v a) :=
 ⟨⟨⟨(by decide : (0 : Int) ≤ 0), (by decide : (0 : Int) ≤ 3), (by decide : (0 : Int) ≤ 67), (by decide : (67 : Int) ≤ 255), by show ClsOk 67; decide⟩, ⟨(by decide : (0 : Int) ≤ 0), (by decide : (0 : Int) ≤ 65535), by show (0 : Int) ≤ 8; decide, by show (2 : Int) ≤ 32; decide⟩, optC_asc v a, fun h => absurd h (by show ¬(67 : Int) = 0; decide), fun h => absurd h (by show ¬(0 : Int) = 3; decide), by show (0 : Int) ≤ 4096; decide⟩, by
  rw [show (raw (fsC v a)).length = 8 from rfl]; decide⟩
theorem validR_fn (v : UInt8) (a : Int) : Sp Tryz.prog 53 [aggM (rsC v a)] [] (Is (.val (.bool true))) := by
 have h := valid_fn (rsC v a)
 rw [decide_eq_true (rsC_val v a)] at h
 exact h
theorem validF_fn (v : UInt8) (a : Int) : Sp Tryz.prog 53 [aggM (fsC v a)] [] (Is (.val (.bool true))) := by
 have h := valid_fn (fsC v a)
 rw [decide_eq_true (fsC_val v a)] at h
 exact h
theorem optC_mem {v : UInt8} {a : Int} : ∀ o ∈ optC v a, o.val.length ≤ 140737488355328 := fun o ho => by
 rcases List.mem_cons.1 ho with rfl | ho
 ·simp
 ·obtain rfl := List.mem_singleton.1 ho; simp
theorem getC (co : Int) (v : UInt8) (a : Int) (p : List UInt8) (n : Int) {w : List UInt8} (h : getO? (optC v a) n = some w) : Sp Tryz.prog 17 [aggM ⟨0, co, 0, [], optC v a, p⟩, .val (.int .i64 n)] [] (Is (.tup [roB w, .val (.bool true)])) := by
 have h2 := oget_fn ⟨0, co, 0, [], optC v a, p⟩ n (by simp) optC_mem
 rw [show getO? (⟨0, co, 0, [], optC v a, p⟩ : Msg).opts n = some w from h] at h2
 exact h2
theorem getCn (co : Int) (v : UInt8) (a : Int) (p : List UInt8) (n : Int) (h : getO? (optC v a) n = none) : Sp Tryz.prog 17 [aggM ⟨0, co, 0, [], optC v a, p⟩, .val (.int .i64 n)] [] (Is (.tup [roB [], .val (.bool false)])) := by
 have h2 := oget_fn ⟨0, co, 0, [], optC v a, p⟩ n (by simp) optC_mem
 rw [show getO? (⟨0, co, 0, [], optC v a, p⟩ : Msg).opts n = none from h] at h2
 exact h2
theorem g14 (v : UInt8) (a : Int) : getO? (optC v a) 14 = some [u8 a] := rfl
theorem g4 (v : UInt8) (a : Int) : getO? (optC v a) 4 = some [v] := rfl
theorem g6 (v : UInt8) (a : Int) : getO? (optC v a) 6 = none := rfl
theorem uintC (a : Int) (h : 0 ≤ a ∧ a ≤ 255) : Sp Tryz.prog 18 [roB [u8 a]] [] (Is (.tup [.val (.int .i64 a), .val (.int .i64 0)])) := by
 have h2 := ouint_fn [u8 a] (by simp)
 rw [show uintL [u8 a] = a by show 0 * 256 + ((u8 a).toNat : Int) = a; rw [u8_nat]; omega] at h2
 exact h2
theorem maxage_fn (co : Int) (v : UInt8) (a : Int) (p : List UInt8) (h : 0 ≤ a ∧ a ≤ 255) : Sp Tryz.prog 74 [aggM ⟨0, co, 0, [], optC v a, p⟩] [] (Is (.val (.int .i64 a))) := by
 have hget := getC co v a p 14 (g14 v a)
 refine Sp.enter Tryz.func74 rfl _ Tryz.ntmps74 rfl (fun w0 R0 => ?_)
 refine AW.seq ?_
 refine AW.region ?_
 refine AO.opB (O.box rfl rfl rfl rfl rfl) rfl rfl rfl ?_
 intro B1
 refine AO.op (O.assign rfl rfl) rfl rfl rfl ?_
 refine AO.nil ?_
 refine AQ.thenN ?_
 refine AW.seq ?_
 refine AW.region ?_
 (refine AO.op (O.loadK rfl rfl (by repeat (exact List.Mem.head _)) (by (dsimp only [List.set, List.cons_append, List.nil_append, List.take, List.drop]; done)) (by rfl)) rfl rfl rfl ?_)
 refine AO.op (O.call rfl Tryz.func17 rfl rfl rfl (hget)) rfl rfl rfl ?_
 refine AO.op (O.move rfl rfl) rfl rfl rfl ?_
 refine AO.op (O.extract rfl rfl rfl) rfl rfl rfl ?_
 refine AO.op (O.extract rfl rfl rfl) rfl rfl rfl ?_
 refine AO.op (O.assign rfl rfl) rfl rfl rfl ?_
 refine AO.op (O.assign rfl rfl) rfl rfl rfl ?_
 refine AO.nil ?_
 refine AQ.thenN ?_
 refine AW.seq ?_
 refine AW.block ?_
 refine AW.seq ?_
 refine AW.region ?_
 refine AO.op (O.move rfl rfl) rfl rfl rfl ?_
 refine AO.op (O.not rfl rfl (by rfl)) rfl rfl rfl ?_
 refine AO.op (O.assign rfl rfl) rfl rfl rfl ?_
 refine AO.nil ?_
 refine AQ.thenN ?_
 refine AW.condF rfl ?_
 refine AW.seq ?_
 refine AW.region ?_
 refine AO.op (O.move rfl rfl) rfl rfl rfl ?_
 refine AO.op (O.lenR rfl rfl) rfl rfl rfl ?_
 refine AO.op (O.gtr rfl rfl rfl (by rfl)) rfl rfl rfl ?_
 refine AO.op (O.assign rfl rfl) rfl rfl rfl ?_
 refine AO.nil ?_
 refine AQ.thenN ?_
 refine AW.condF rfl ?_
 refine AW.skip ?_
 refine AQ.blockN ?_
 refine AQ.thenN ?_
 refine AW.seq ?_
 refine AW.region ?_
 refine AO.op (O.move rfl rfl) rfl rfl rfl ?_
 refine AO.op (O.call rfl Tryz.func18 rfl rfl rfl (uintC a h)) rfl rfl rfl ?_
 refine AO.op (O.move rfl rfl) rfl rfl rfl ?_
 refine AO.op (O.extract rfl rfl rfl) rfl rfl rfl ?_
 refine AO.op (O.extract rfl rfl rfl) rfl rfl rfl ?_
 refine AO.op (O.assign rfl rfl) rfl rfl rfl ?_
 refine AO.op (O.assign rfl rfl) rfl rfl rfl ?_
 refine AO.nil ?_
 refine AQ.thenN ?_
 refine AW.seq ?_
 refine AW.region ?_
 refine AO.op (O.move rfl rfl) rfl rfl rfl ?_
 refine AO.op (O.assign rfl rfl) rfl rfl rfl ?_
 refine AO.nil ?_
 refine AQ.thenN ?_
 refine AW.ret ?_
 refine AQ.ret1 rfl rfl ⟨_, List.nil_sublist _, .nil⟩ (⟨rfl, rfl⟩)
theorem storable_fn (v : UInt8) (a : Int) (h : 1 ≤ a ∧ a ≤ 30) : Sp Tryz.prog 75 [aggM (rsC v a)] [] (Is (.val (.bool true))) := by
 have hall : Sp Tryz.prog 94 [aggM (rsC v a), .val (.int .i64 23)] [] (Is (roBs [])) := oall_fn (rsC v a) 23 (by simp) optC_mem
 refine Sp.enter Tryz.func75 rfl _ Tryz.ntmps75 rfl (fun w0 R0 => ?_)
 refine AW.seq ?_
 refine AW.region ?_
 refine AO.opB (O.box rfl rfl rfl rfl rfl) rfl rfl rfl ?_
 intro B1
 refine AO.op (O.assign rfl rfl) rfl rfl rfl ?_
 refine AO.nil ?_
 refine AQ.thenN ?_
 refine AW.seq ?_
 refine AW.seq ?_
 refine AW.region ?_
 (refine AO.op (O.loadK rfl rfl (by repeat (exact List.Mem.head _)) (by (dsimp only [List.set, List.cons_append, List.nil_append, List.take, List.drop]; done)) (by rfl)) rfl rfl rfl ?_)
 refine AO.op (O.call rfl Tryz.func53 rfl rfl rfl (validR_fn v a)) rfl rfl rfl ?_
 refine AO.op (O.not rfl rfl (by rfl)) rfl rfl rfl ?_
 refine AO.op (O.move rfl rfl) rfl rfl rfl ?_
 refine AO.op (O.fieldAddr rfl rfl) rfl rfl rfl ?_
 refine AO.op (O.load rfl rfl (by repeat (exact List.Mem.head _)) (by rfl)) rfl rfl rfl ?_
 refine AO.op (O.neq rfl rfl rfl (by rfl)) rfl rfl rfl ?_
 refine AO.op (O.move rfl rfl) rfl rfl rfl ?_
 refine AO.no rfl rfl rfl ?_
 refine AO.no rfl rfl rfl ?_
 refine AO.no rfl rfl rfl ?_
 refine AO.op (O.pickF rfl rfl rfl) rfl rfl rfl ?_
 refine AO.op (O.pickF rfl rfl rfl) rfl rfl rfl ?_
 refine AO.op (O.move rfl rfl) rfl rfl rfl ?_
 (refine AO.op (O.loadK rfl rfl (by repeat (exact List.Mem.head _)) (by (dsimp only [List.set, List.cons_append, List.nil_append, List.take, List.drop]; done)) (by rfl)) rfl rfl rfl ?_)
 refine AO.op (O.call rfl Tryz.func74 rfl rfl rfl (maxage_fn 69 v a [v] ⟨by omega, by omega⟩)) rfl rfl rfl ?_
 refine AO.op (O.eql rfl rfl rfl (by exact beq_eq_false_iff_ne.2 (by omega))) rfl rfl rfl ?_
 refine AO.op (O.pickF rfl rfl rfl) rfl rfl rfl ?_
 refine AO.nil ?_
 refine AQ.thenN ?_
 refine AW.condF rfl ?_
 refine AW.skip ?_
 refine AQ.thenN ?_
 refine AW.seq ?_
 refine AW.seq ?_
 refine AW.region ?_
 (refine AO.op (O.loadK rfl rfl (by repeat (exact List.Mem.head _)) (by (dsimp only [List.set, List.cons_append, List.nil_append, List.take, List.drop]; done)) (by rfl)) rfl rfl rfl ?_)
 refine AO.op (O.call rfl Tryz.func17 rfl rfl rfl (getCn 69 v a [v] 6 (g6 v a))) rfl rfl rfl ?_
 refine AO.op (O.move rfl rfl) rfl rfl rfl ?_
 refine AO.op (O.extract rfl rfl rfl) rfl rfl rfl ?_
 refine AO.op (O.extract rfl rfl rfl) rfl rfl rfl ?_
 refine AO.op (O.assign rfl rfl) rfl rfl rfl ?_
 refine AO.op (O.assign rfl rfl) rfl rfl rfl ?_
 refine AO.nil ?_
 refine AQ.thenN ?_
 refine AW.seq ?_
 refine AW.region ?_
 refine AO.op (O.move rfl rfl) rfl rfl rfl ?_
 refine AO.nil ?_
 refine AQ.thenN ?_
 refine AW.condF rfl ?_
 refine AW.skip ?_
 refine AQ.thenN ?_
 refine AW.seq ?_
 refine AW.region ?_
 (refine AO.op (O.loadK rfl rfl (by repeat (exact List.Mem.head _)) (by (dsimp only [List.set, List.cons_append, List.nil_append, List.take, List.drop]; done)) (by rfl)) rfl rfl rfl ?_)
 refine AO.op (O.call rfl Tryz.func94 rfl rfl rfl (hall)) rfl rfl rfl ?_
 refine AO.op (O.assign rfl rfl) rfl rfl rfl ?_
 refine AO.nil ?_
 refine AQ.thenN ?_
 refine AW.seq ?_
 refine AW.seq ?_
 refine AW.region ?_
 refine AO.op (O.move rfl rfl) rfl rfl rfl ?_
 refine AO.op (O.lenR rfl rfl) rfl rfl rfl ?_
 refine AO.op (O.eql rfl rfl rfl (by rfl)) rfl rfl rfl ?_
 refine AO.nil ?_
 refine AQ.thenN ?_
 refine AW.condT rfl ?_
 refine AW.seq ?_
 refine AW.region ?_
 refine AO.op (O.assign rfl rfl) rfl rfl rfl ?_
 refine AO.nil ?_
 refine AQ.thenN ?_
 refine AW.ret ?_
 refine AQ.thenR ?_
 refine AQ.ret1 rfl rfl ⟨_, List.nil_sublist _, .nil⟩ (⟨rfl, rfl⟩)
/-! ### element, all, Remove -/
set_option maxHeartbeats 4000000 in
theorem element_fn (c : Cd) : Sp Tryz.prog 70 [.agg (cD c)] [] (Is (.agg (cD c))) := by
 show Sp Tryz.prog 70 [.agg [roB (keyC c.k), .val (.int .i64 0), .val (.int .i64 69), .val (.int .i64 0), roB [], roO (optC c.v c.a0), roB [c.v], .val (.int .i64 c.at_), .val (.int .i64 c.age)]] [] _
 refine Sp.enter Tryz.func70 rfl _ Tryz.ntmps70 rfl (fun w0 R0 => ?_)
 refine AW.seq ?_
 refine AW.region ?_
 refine AO.opB (O.box rfl rfl rfl rfl rfl) rfl rfl rfl ?_
 intro B1
 refine AO.opB (O.alloc rfl (by (dsimp only [zerosA, List.replicate, List.append, List.flatten, AV.cells, Value.cells, List.toList_toArray, List.map]; done)) (by rfl)) rfl rfl rfl ?_
 intro B2
 refine AO.nil ?_
 refine AQ.thenN ?_
 refine AW.seq ?_
 refine AW.region ?_
 refine AO.op (O.fieldAddr rfl rfl) rfl rfl rfl ?_
 refine AO.op (O.load rfl rfl (by repeat (first | exact List.Mem.head _ | refine List.Mem.tail _ ?_)) (by rfl)) rfl rfl rfl ?_
 refine AO.op (O.call rfl Tryz.func49 rfl rfl rfl (clone_fn _ (by simp))) rfl rfl rfl ?_
 refine AO.op (O.fieldAddr rfl rfl) rfl rfl rfl ?_
 (refine AO.store (i := 1) rfl rfl rfl rfl rfl rfl (by rfl) (by rfl) (by rfl) (by (dsimp only [List.set, List.cons_append, List.nil_append, List.take, List.drop]; done)) (by (dsimp only [List.set, List.cons_append, List.nil_append, List.take, List.drop]; done)) ?_)
 refine AO.nil ?_
 refine AQ.thenN ?_
 refine AW.seq ?_
 refine AW.region ?_
 refine AO.op (O.fieldAddr rfl rfl) rfl rfl rfl ?_
 (refine AO.op (O.loadK rfl rfl (by repeat (first | exact List.Mem.head _ | refine List.Mem.tail _ ?_)) (by (dsimp only [List.set, List.cons_append, List.nil_append, List.take, List.drop]; done)) (by rfl)) rfl rfl rfl ?_)
 refine AO.opB (O.alloc rfl (by (dsimp only [zerosA, List.replicate, List.append, List.flatten, AV.cells, Value.cells, List.toList_toArray, List.map]; done)) (by rfl)) rfl rfl rfl ?_
 intro B3
 (refine AO.store (i := 0) rfl rfl rfl rfl rfl rfl (by rfl) (by rfl) (by rfl) (by (dsimp only [List.set, List.cons_append, List.nil_append, List.take, List.drop]; done)) (by (dsimp only [List.set, List.cons_append, List.nil_append, List.take, List.drop]; done)) ?_)
 refine AO.nil ?_
 refine AQ.thenN ?_
 refine AW.seq ?_
 refine AW.region ?_
 refine AO.op (O.fieldAddr rfl rfl) rfl rfl rfl ?_
 refine AO.op (O.load rfl rfl (by repeat (exact List.Mem.head _)) (by rfl)) rfl rfl rfl ?_
 refine AO.op (O.call rfl Tryz.func49 rfl rfl rfl (clone_fn _ (by simp))) rfl rfl rfl ?_
 refine AO.op (O.fieldAddr rfl rfl) rfl rfl rfl ?_
 (refine AO.store (i := 0) rfl rfl rfl rfl rfl rfl (by rfl) (by rfl) (by rfl) (by (dsimp only [List.set, List.cons_append, List.nil_append, List.take, List.drop]; done)) (by (dsimp only [List.set, List.cons_append, List.nil_append, List.take, List.drop]; done)) ?_)
 refine AO.op (O.fieldAddr rfl rfl) rfl rfl rfl ?_
 (refine AO.store (i := 0) rfl rfl rfl rfl rfl rfl (by rfl) (by rfl) (by rfl) (by (dsimp only [List.set, List.cons_append, List.nil_append, List.take, List.drop]; done)) (by (dsimp only [List.set, List.cons_append, List.nil_append, List.take, List.drop]; done)) ?_)
 refine AO.nil ?_
 refine AQ.thenN ?_
 refine AW.seq ?_
 refine AW.region ?_
 refine AO.op (O.fieldAddr rfl rfl) rfl rfl rfl ?_
 (refine AO.store (i := 0) rfl rfl rfl rfl rfl rfl (by rfl) (by rfl) (by rfl) (by (dsimp only [List.set, List.cons_append, List.nil_append, List.take, List.drop]; done)) (by (dsimp only [List.set, List.cons_append, List.nil_append, List.take, List.drop]; done)) ?_)
 refine AO.nil ?_
 refine AQ.thenN ?_
 refine AW.seq ?_
 refine AW.seq ?_
 refine AW.region ?_
 refine AO.op (O.fieldAddr rfl rfl) rfl rfl rfl ?_
 refine AO.op (O.fieldAddr rfl rfl) rfl rfl rfl ?_
 refine AO.op (O.load rfl rfl (by repeat (first | exact List.Mem.head _ | refine List.Mem.tail _ ?_)) (by rfl)) rfl rfl rfl ?_
 refine AO.op (O.lenR rfl rfl) rfl rfl rfl ?_
 refine AO.op (O.move rfl rfl) rfl rfl rfl ?_
 refine AO.nil ?_
 refine AQ.thenN ?_
 refine AW.block ?_
 refine AW.g ?_
 refine G.nilRow 74 2 ?_
 refine AW.u ?_
 obtain ⟨os, hos⟩ : ∃ os, os = optC c.v c.a0 := ⟨_, rfl⟩
 have hol : os.length = 2 := by rw [hos]; rfl
 have hom : ∀ q, q < os.length → (oat os q).val.length ≤ 140737488355328 := fun q hq => by rw [hos] at hq ⊢; exact optC_mem _ (getD_mem Opt.none hq)
 rw [← hos]
 refine AW.loopK [(1, _), (2, _), (3, _), (20, _), (21, _)] (fun nn E H => ∃ (q : Nat) (V : Value), (q ≤ os.length) ∧ (V.oneCell' = true) ∧ nn = os.length - q ∧ E = [(22, .val (.int .i64 (q : Int)))] ∧ H = [.row V 74 2 q (optsA (os.take q)), .blk B3 41 6 [.val (.int .i64 0), .val (.int .i64 69), .val (.int .i64 0), .val (.slice none 0 0), .val V, roB [c.v]], .blk B2 140 9 [.val (.slice none 0 0), .val (.int .i64 0), .val (.int .i64 0), .val (.int .i64 0), .val (.slice none 0 0), .val (.slice none 0 0), .val (.slice none 0 0), .val (.int .i64 0), .val (.int .i64 0)], .blk B1 140 9 [roB (keyC c.k), .val (.int .i64 0), .val (.int .i64 69), .val (.int .i64 0), roB [], roO os, roB [c.v], .val (.int .i64 c.at_), .val (.int .i64 c.age)]]) _ (⟨0, _, by omega, rfl, rfl, rfl, rfl⟩) (by repeat (first | exact envNil | refine envCons rfl ?_)) (by repeat (first | exact envNil | refine envCons rfl ?_)) (by repeat (first | exact subPnil | refine subPcons 0 rfl ?_)) ?_
 rintro nn E H ⟨q, V, hq, hV, rfl, rfl, rfl⟩
 dsimp only [List.cons_append, List.nil_append]
 refine AW.seq ?_
 refine AW.region ?_
 refine AO.op (O.lss rfl rfl rfl (by rfl)) rfl rfl rfl ?_
 refine AO.nil ?_
 refine AQ.thenN ?_
 refine AW.seq ?_
 refine AW.split rfl (fun hlt => ?_) (fun hlt => ?_) <;> (try simp only [decide_eq_true_eq, decide_eq_false_iff_not, beq_iff_eq, beq_eq_false_iff_ne, bne_iff_ne, bne_eq_false_iff_eq, Bool.not_eq_true', Bool.not_eq_false', Bool.not_eq_true, Bool.not_eq_false, ne_eq, Int.not_lt, Int.not_le, Bool.and_eq_true, Bool.or_eq_true, Bool.or_eq_false_iff, Bool.and_eq_false_imp, strOf_toList, Decidable.not_not] at hlt)
 ·skip
  have hql : q < os.length := by omega
  have hvq := hom q hql
  have hsc : optsA (os.take (q + 1)) = optsA (os.take q) ++ [.val (.int .i64 (oat os q).num), roB (oat os q).val] := by rw [take_snoc Opt.none hql, optsA_snoc]
  refine AW.skip ?_
  refine AQ.thenN ?_
  refine AW.seq ?_
  refine AW.block ?_
  refine AW.seq ?_
  refine AW.region ?_
  refine AO.op (O.idxR rfl rfl rfl ⟨(by omega), (by omega)⟩) rfl rfl rfl ?_
  refine AO.op (O.loadRK rfl rfl (by exact getO hql (by omega)) (by rfl)) rfl rfl rfl ?_
  refine AO.opB (O.alloc rfl (by (dsimp only [zerosA, List.replicate, List.append, List.flatten, AV.cells, Value.cells, List.toList_toArray, List.map]; done)) (by rfl)) rfl rfl rfl ?_
  intro B4
  (refine AO.store (i := 0) rfl rfl rfl rfl rfl rfl (by rfl) (by rfl) (by rfl) (by (dsimp only [List.set, List.cons_append, List.nil_append, List.take, List.drop]; done)) (by (dsimp only [List.set, List.cons_append, List.nil_append, List.take, List.drop]; done)) ?_)
  refine AO.nil ?_
  refine AQ.thenN ?_
  refine AW.regionD 9 (by kernel_rfl) (by kernel_rfl) ?_
  simp only [List.take_succ_cons, List.take_zero, List.drop_succ_cons, List.drop_zero]
  refine FA.op (O.fieldAddr rfl rfl) rfl rfl rfl rfl ?_
  refine FA.op (O.load rfl rfl (by repeat (first | exact List.Mem.head _ | refine List.Mem.tail _ ?_)) (by rfl)) rfl rfl rfl rfl ?_
  refine FA.op (O.fieldAddr rfl rfl) rfl rfl rfl rfl ?_
  refine FA.op (O.load rfl rfl (by repeat (exact List.Mem.head _)) (by rfl)) rfl rfl rfl rfl ?_
  refine FA.op (O.fieldAddr rfl rfl) rfl rfl rfl rfl ?_
  refine FA.op (O.load rfl rfl (by repeat (exact List.Mem.head _)) (by rfl)) rfl rfl rfl rfl ?_
  refine FA.op (O.call rfl Tryz.func49 rfl rfl rfl (clone_fn _ hvq)) rfl rfl rfl rfl ?_
  refine FA.op (O.build rfl rfl rfl (by rfl)) rfl rfl rfl rfl ?_
  refine FA.op (OpW.frz (O.buildSlice rfl rfl rfl (by rfl) (by rfl) (by rfl) (by rfl)) (by (unfold maxLen; omega))) rfl rfl rfl rfl ?_
  refine FA.nil ?_
  simp only [chosen, List.nil_append, List.cons_append, List.append_nil]
  (refine AO.append' (i := 1) rfl rfl rfl rfl (by rfl) (by rfl) rfl rfl rfl (by exact SrcA.ro TyD.ax (by rfl) (Nat.le_of_ble_eq_true rfl)) (by rfl) (by (unfold maxLen; omega)) (by omega) (by (dsimp only [List.set, List.cons_append, List.nil_append, List.take, List.drop]; done)) (fun _ => by (dsimp only [List.set]; done)) ?_)
  intro V5 hV5
  refine AO.op (O.fieldAddr rfl rfl) rfl rfl rfl ?_
  (refine AO.store (i := 2) rfl rfl rfl rfl rfl rfl (by (simp [AV.cells, AV.one, *]; done)) (by rfl) (by rfl) (by (dsimp only [List.set, List.cons_append, List.nil_append, List.take, List.drop]; done)) (by (dsimp only [List.set, List.cons_append, List.nil_append, List.take, List.drop]; done)) ?_)
  refine AO.nil ?_
  refine AQ.blockN ?_
  refine AQ.thenN ?_
  refine AW.region ?_
  refine AO.op (O.add rfl rfl rfl (by exact wI64 (by omega))) rfl rfl rfl ?_
  refine AO.op (O.move rfl rfl) rfl rfl rfl ?_
  refine AO.nil ?_
  refine AQ.loopKN _ _ _ (by omega) (⟨q + 1, _, by omega, ‹_›, rfl, rfl, by rw [hsc]⟩) (by repeat (first | exact envNil | refine envCons rfl ?_)) (by repeat (first | exact envNil | refine envCons rfl ?_)) (by repeat (first | exact subPnil | refine subPcons 1 rfl ?_))
 ·skip
  obtain rfl : q = os.length := by omega
  rw [List.take_length]
  refine AW.g ?_
  refine G.freezeCell 0 0 4 rfl rfl rfl ?_
  refine AW.u ?_
  dsimp only [List.eraseIdx, List.set]
  refine AW.exit ?_
  refine AQ.thenX ?_
  refine AQ.loopX ?_
  refine AQ.blockX rfl ?_
  refine AQ.thenN ?_
  refine AW.seq ?_
  refine AW.region ?_
  (refine AO.op (O.loadK rfl rfl (by repeat (exact List.Mem.head _)) (by (dsimp only [List.set, List.cons_append, List.nil_append, List.take, List.drop]; done)) (by rfl)) rfl rfl rfl ?_)
  refine AO.op (O.fieldAddr rfl rfl) rfl rfl rfl ?_
  (refine AO.store (i := 2) rfl rfl rfl rfl rfl rfl (by rfl) (by rfl) (by rfl) (by (dsimp only [List.set, List.cons_append, List.nil_append, List.take, List.drop]; done)) (by (dsimp only [List.set, List.cons_append, List.nil_append, List.take, List.drop]; done)) ?_)
  refine AO.nil ?_
  refine AQ.thenN ?_
  refine AW.seq ?_
  refine AW.region ?_
  (refine AO.op (O.loadK rfl rfl (by repeat (first | exact List.Mem.head _ | refine List.Mem.tail _ ?_)) (by (dsimp only [List.set, List.cons_append, List.nil_append, List.take, List.drop]; done)) (by rfl)) rfl rfl rfl ?_)
  (refine AO.store (i := 1) rfl rfl rfl rfl rfl rfl (by rfl) (by rfl) (by rfl) (by (dsimp only [List.set, List.cons_append, List.nil_append, List.take, List.drop]; done)) (by (dsimp only [List.set, List.cons_append, List.nil_append, List.take, List.drop]; done)) ?_)
  refine AO.nil ?_
  refine AQ.thenN ?_
  refine AW.ret ?_
  subst hos
  refine FnQ.coe (AQ.retCell rfl rfl (by repeat (first | exact List.Mem.head _ | refine List.Mem.tail _ ?_)) (by (dsimp only [List.set, List.cons_append, List.nil_append, List.take, List.drop]; done)) (by rfl) ⟨_, List.nil_sublist _, .nil⟩ ⟨rfl, rfl⟩) (Coe.agg (by (repeat (first | exact CoeL.nil | refine CoeL.cons Coe.rfl ?_ | refine CoeL.cons Coe.nil ?_)); done)) (⟨rfl, rfl⟩)
set_option maxHeartbeats 4000000 in
theorem call_fn (l : List Cd) (hl : l.length ≤ 1000) : Sp Tryz.prog 73 [roCd l] [] (NewRow 140 9 l.length (cdsA l)) := by
 refine Sp.enter Tryz.func73 rfl _ Tryz.ntmps73 rfl (fun w0 R0 => ?_)
 refine AW.seq ?_
 refine AW.region ?_
 refine AO.op (O.assign rfl rfl) rfl rfl rfl ?_
 refine AO.nil ?_
 refine AQ.thenN ?_
 refine AW.seq ?_
 refine AW.region ?_
 refine AO.op (O.assign rfl rfl) rfl rfl rfl ?_
 refine AO.nil ?_
 refine AQ.thenN ?_
 refine AW.seq ?_
 refine AW.seq ?_
 refine AW.region ?_
 refine AO.op (O.move rfl rfl) rfl rfl rfl ?_
 refine AO.op (O.lenR rfl rfl) rfl rfl rfl ?_
 refine AO.op (O.move rfl rfl) rfl rfl rfl ?_
 refine AO.nil ?_
 refine AQ.thenN ?_
 refine AW.block ?_
 refine AW.g ?_
 refine G.nilRow 140 9 ?_
 refine AW.u ?_
 refine AW.loopK [(6, _), (7, _)] (fun nn E H => ∃ (q : Nat) (V : Value), (q ≤ l.length) ∧ (V.oneCell' = true) ∧ nn = l.length - q ∧ E = [(3, .val V), (8, .val (.int .i64 (q : Int)))] ∧ H = [.row V 140 9 q (cdsA (l.take q))]) _ (⟨0, _, by omega, rfl, rfl, rfl, rfl⟩) (by repeat (first | exact envNil | refine envCons rfl ?_)) (by repeat (first | exact envNil | refine envCons rfl ?_)) (by repeat (first | exact subPnil | refine subPcons 0 rfl ?_)) ?_
 rintro nn E H ⟨q, V, hq, hV, rfl, rfl, rfl⟩
 dsimp only [List.cons_append, List.nil_append]
 refine AW.seq ?_
 refine AW.region ?_
 refine AO.op (O.lss rfl rfl rfl (by rfl)) rfl rfl rfl ?_
 refine AO.nil ?_
 refine AQ.thenN ?_
 refine AW.seq ?_
 refine AW.split rfl (fun hlt => ?_) (fun hlt => ?_) <;> (try simp only [decide_eq_true_eq, decide_eq_false_iff_not, beq_iff_eq, beq_eq_false_iff_ne, bne_iff_ne, bne_eq_false_iff_eq, Bool.not_eq_true', Bool.not_eq_false', Bool.not_eq_true, Bool.not_eq_false, ne_eq, Int.not_lt, Int.not_le, Bool.and_eq_true, Bool.or_eq_true, Bool.or_eq_false_iff, Bool.and_eq_false_imp, strOf_toList, Decidable.not_not] at hlt)
 ·skip
  have hql : q < l.length := by omega
  have hsc := cdsA_snoc (l.take q) (cd l q)
  rw [← take_snoc Cd.none hql] at hsc
  refine AW.skip ?_
  refine AQ.thenN ?_
  refine AW.seq ?_
  refine AW.block ?_
  refine AW.seq ?_
  refine AW.region ?_
  refine AO.op (O.idxR rfl rfl rfl ⟨(by omega), (by omega)⟩) rfl rfl rfl ?_
  refine AO.op (O.loadRK rfl rfl (by exact getCd hql (by omega)) (by rfl)) rfl rfl rfl ?_
  refine AO.opB (O.alloc rfl (by (dsimp only [zerosA, List.replicate, List.append, List.flatten, AV.cells, Value.cells, List.toList_toArray, List.map]; done)) (by rfl)) rfl rfl rfl ?_
  intro B1
  (refine AO.store (i := 0) rfl rfl rfl rfl rfl rfl (by rfl) (by rfl) (by rfl) (by (dsimp only [List.set, List.cons_append, List.nil_append, List.take, List.drop]; done)) (by (dsimp only [List.set, List.cons_append, List.nil_append, List.take, List.drop]; done)) ?_)
  refine AO.nil ?_
  refine AQ.thenN ?_
  refine AW.region ?_
  refine AO.op (O.move rfl rfl) rfl rfl rfl ?_
  refine AO.op (O.loadK rfl rfl (by repeat (exact List.Mem.head _)) (by rfl) (by rfl)) rfl rfl rfl ?_
  refine AO.op (O.call rfl Tryz.func70 rfl rfl rfl (element_fn (cd l q))) rfl rfl rfl ?_
  refine AO.opB (O.buildSlice rfl rfl rfl (by rfl) (by rfl) (by rfl) (by rfl)) rfl rfl rfl ?_
  intro B2
  refine AO.g ?_
  (refine G.freezeSl 0 15 rfl rfl ⟨Nat.le_refl _, by unfold maxLen; omega⟩ ?_)
  refine G.unfull 15 rfl ?_
  refine AO.u ?_
  dsimp only [List.eraseIdx]
  (refine AO.append' (i := 1) rfl rfl rfl rfl (by rfl) (by rfl) rfl rfl rfl (by exact SrcA.ro TyD.ax (by rfl) (Nat.le_of_ble_eq_true rfl)) (by rfl) (by (unfold maxLen; omega)) (by omega) (by (dsimp only [List.set, List.cons_append, List.nil_append, List.take, List.drop]; done)) (fun _ => by (dsimp only [List.set]; done)) ?_)
  intro V3 hV3
  refine AO.op (O.assign rfl rfl) rfl rfl rfl ?_
  refine AO.nil ?_
  refine AQ.blockN ?_
  refine AQ.thenN ?_
  refine AW.region ?_
  refine AO.op (O.add rfl rfl rfl (by exact wI64 (by omega))) rfl rfl rfl ?_
  refine AO.op (O.move rfl rfl) rfl rfl rfl ?_
  refine AO.nil ?_
  refine AQ.loopKN _ _ _ (by omega) (⟨q + 1, _, by omega, ‹_›, rfl, rfl, by rw [hsc]⟩) (by repeat (first | exact envNil | refine envCons rfl ?_)) (by repeat (first | exact envNil | refine envCons rfl ?_)) (by repeat (first | exact subPnil | refine subPcons 1 rfl ?_))
 ·skip
  obtain rfl : q = l.length := by omega
  rw [List.take_length]
  refine AW.exit ?_
  refine AQ.thenX ?_
  refine AQ.loopX ?_
  refine AQ.blockX rfl ?_
  refine AQ.thenN ?_
  refine AW.seq ?_
  refine AW.region ?_
  refine AO.op (O.move rfl rfl) rfl rfl rfl ?_
  refine AO.op (O.assign rfl rfl) rfl rfl rfl ?_
  refine AO.nil ?_
  refine AQ.thenN ?_
  refine AW.ret ?_
  refine AQ.ret1 rfl rfl ⟨_, by repeat (first | exact List.Sublist.slnil | refine List.Sublist.cons_cons _ ?_), List.Perm.refl _⟩ (⟨V, rfl, hV, rfl⟩)
def remC (l : List Cd) (k : UInt8) : List Cd := l.filter fun c => c.k != k
theorem remC_snoc (l : List Cd) (c : Cd) (k : UInt8) : remC (l ++ [c]) k = if c.k = k then remC l k else remC l k ++ [c] := by
 unfold remC
 rw [List.filter_append]
 by_cases h : c.k = k
 ·rw [if_pos h, List.filter_cons_of_neg (by simpa using h)]; simp
 ·rw [if_neg h, List.filter_cons_of_pos (by simpa using h)]; rfl
set_option maxHeartbeats 4000000 in
theorem remove_fn (l : List Cd) (k : UInt8) (hl : l.length ≤ 1000) : Sp Tryz.prog 31 [roCd l, roB (keyC k)] [] (Is (roCd (remC l k))) := by
 refine Sp.enter Tryz.func31 rfl _ Tryz.ntmps31 rfl (fun w0 R0 => ?_)
 refine AW.seq ?_
 refine AW.region ?_
 refine AO.op (O.assign rfl rfl) rfl rfl rfl ?_
 refine AO.nil ?_
 refine AQ.thenN ?_
 refine AW.scope ?_
 refine AW.seq ?_
 refine AW.region ?_
 refine AO.op (O.assign rfl rfl) rfl rfl rfl ?_
 refine AO.nil ?_
 refine AQ.thenN ?_
 refine AW.seq ?_
 refine AW.label ?_
 refine AQ.thenN ?_
 refine AW.seq ?_
 refine AW.seq ?_
 refine AW.region ?_
 refine AO.op (O.move rfl rfl) rfl rfl rfl ?_
 refine AO.op (O.lenR rfl rfl) rfl rfl rfl ?_
 refine AO.op (O.move rfl rfl) rfl rfl rfl ?_
 refine AO.nil ?_
 refine AQ.thenN ?_
 refine AW.block ?_
 refine AW.g ?_
 refine G.nilRow 140 9 ?_
 refine AW.u ?_
 refine AW.loopK [(1, _), (8, _), (9, _)] (fun nn E H => ∃ (q : Nat) (V : Value), (q ≤ l.length) ∧ (V.oneCell' = true) ∧ nn = l.length - q ∧ E = [(5, .val V), (10, .val (.int .i64 (q : Int)))] ∧ H = [.row V 140 9 (remC (l.take q) k).length (cdsA (remC (l.take q) k))]) _ (⟨0, _, by omega, rfl, rfl, rfl, rfl⟩) (by repeat (first | exact envNil | refine envCons rfl ?_)) (by repeat (first | exact envNil | refine envCons rfl ?_)) (by repeat (first | exact subPnil | refine subPcons 0 rfl ?_)) ?_
 rintro nn E H ⟨q, V, hq, hV, rfl, rfl, rfl⟩
 dsimp only [List.cons_append, List.nil_append]
 have hfl : (remC (l.take q) k).length ≤ q := Nat.le_trans (List.length_filter_le _ _) (by rw [List.length_take]; omega)
 refine AW.seq ?_
 refine AW.region ?_
 refine AO.op (O.lss rfl rfl rfl (by rfl)) rfl rfl rfl ?_
 refine AO.nil ?_
 refine AQ.thenN ?_
 refine AW.seq ?_
 refine AW.split rfl (fun hlt => ?_) (fun hlt => ?_) <;> (try simp only [decide_eq_true_eq, decide_eq_false_iff_not, beq_iff_eq, beq_eq_false_iff_ne, bne_iff_ne, bne_eq_false_iff_eq, Bool.not_eq_true', Bool.not_eq_false', Bool.not_eq_true, Bool.not_eq_false, ne_eq, Int.not_lt, Int.not_le, Bool.and_eq_true, Bool.or_eq_true, Bool.or_eq_false_iff, Bool.and_eq_false_imp, strOf_toList, Decidable.not_not] at hlt)
 ·skip
  have hql : q < l.length := by omega
  have hrs := remC_snoc (l.take q) (cd l q) k
  rw [← take_snoc Cd.none hql] at hrs
  refine AW.skip ?_
  refine AQ.thenN ?_
  refine AW.seq ?_
  refine AW.block ?_
  refine AW.seq ?_
  refine AW.region ?_
  refine AO.op (O.idxR rfl rfl rfl ⟨(by omega), (by omega)⟩) rfl rfl rfl ?_
  refine AO.op (O.loadRK rfl rfl (by exact getCd hql (by omega)) (by rfl)) rfl rfl rfl ?_
  refine AO.opB (O.alloc rfl (by (dsimp only [zerosA, List.replicate, List.append, List.flatten, AV.cells, Value.cells, List.toList_toArray, List.map]; done)) (by rfl)) rfl rfl rfl ?_
  intro B1
  (refine AO.store (i := 0) rfl rfl rfl rfl rfl rfl (by rfl) (by rfl) (by rfl) (by (dsimp only [List.set, List.cons_append, List.nil_append, List.take, List.drop]; done)) (by (dsimp only [List.set, List.cons_append, List.nil_append, List.take, List.drop]; done)) ?_)
  refine AO.nil ?_
  refine AQ.thenN ?_
  refine AW.seq ?_
  refine AW.seq ?_
  refine AW.region ?_
  refine AO.op (O.fieldAddr rfl rfl) rfl rfl rfl ?_
  refine AO.op (O.load rfl rfl (by repeat (exact List.Mem.head _)) (by rfl)) rfl rfl rfl ?_
  refine AO.op (O.move rfl rfl) rfl rfl rfl ?_
  refine AO.op (O.call rfl Tryz.func46 rfl rfl rfl (cequal_fn _ _)) rfl rfl rfl ?_
  refine AO.nil ?_
  refine AQ.thenN ?_
  refine AW.split rfl (fun he => ?_) (fun he => ?_) <;> (try simp only [decide_eq_true_eq, decide_eq_false_iff_not, beq_iff_eq, beq_eq_false_iff_ne, bne_iff_ne, bne_eq_false_iff_eq, Bool.not_eq_true', Bool.not_eq_false', Bool.not_eq_true, Bool.not_eq_false, ne_eq, Int.not_lt, Int.not_le, Bool.and_eq_true, Bool.or_eq_true, Bool.or_eq_false_iff, Bool.and_eq_false_imp, strOf_toList, Decidable.not_not] at he)
  ·skip
   rw [if_pos (keyC_inj.1 he)] at hrs
   refine AW.exit ?_
   refine AQ.thenX ?_
   refine AQ.blockX rfl ?_
   refine AQ.thenN ?_
   refine AW.region ?_
   refine AO.op (O.add rfl rfl rfl (by exact wI64 (by omega))) rfl rfl rfl ?_
   refine AO.op (O.move rfl rfl) rfl rfl rfl ?_
   refine AO.nil ?_
   refine AQ.loopKN _ _ _ (by omega) (⟨q + 1, _, by omega, hV, rfl, rfl, by rw [hrs]⟩) (by repeat (first | exact envNil | refine envCons rfl ?_)) (by repeat (first | exact envNil | refine envCons rfl ?_)) (by repeat (first | exact subPnil | refine subPcons 1 rfl ?_))
  ·skip
   rw [if_neg (fun g => he (keyC_inj.2 g))] at hrs
   refine AW.skip ?_
   refine AQ.thenN ?_
   refine AW.region ?_
   refine AO.op (O.move rfl rfl) rfl rfl rfl ?_
   refine AO.op (O.loadK rfl rfl (by repeat (exact List.Mem.head _)) (by rfl) (by rfl)) rfl rfl rfl ?_
   refine AO.op (O.call rfl Tryz.func70 rfl rfl rfl (element_fn (cd l q))) rfl rfl rfl ?_
   refine AO.opB (O.buildSlice rfl rfl rfl (by rfl) (by rfl) (by rfl) (by rfl)) rfl rfl rfl ?_
   intro B2
   refine AO.g ?_
   (refine G.freezeSl 0 21 rfl rfl ⟨Nat.le_refl _, by unfold maxLen; omega⟩ ?_)
   refine G.unfull 21 rfl ?_
   refine AO.u ?_
   dsimp only [List.eraseIdx]
   (refine AO.append' (i := 1) rfl rfl rfl rfl (by rfl) (by rfl) rfl rfl rfl (by exact SrcA.ro TyD.ax (by rfl) (Nat.le_of_ble_eq_true rfl)) (by rfl) (by (unfold maxLen; omega)) (by omega) (by (dsimp only [List.set, List.cons_append, List.nil_append, List.take, List.drop]; done)) (fun _ => by (dsimp only [List.set]; done)) ?_)
   intro V3 hV3
   refine AO.op (O.assign rfl rfl) rfl rfl rfl ?_
   refine AO.nil ?_
   refine AQ.blockN ?_
   refine AQ.thenN ?_
   refine AW.region ?_
   refine AO.op (O.add rfl rfl rfl (by exact wI64 (by omega))) rfl rfl rfl ?_
   refine AO.op (O.move rfl rfl) rfl rfl rfl ?_
   refine AO.nil ?_
   refine AQ.loopKN _ _ _ (by omega) (⟨q + 1, _, by omega, ‹_›, rfl, rfl, by rw [hrs, cdsA_snoc, List.length_append]⟩) (by repeat (first | exact envNil | refine envCons rfl ?_)) (by repeat (first | exact envNil | refine envCons rfl ?_)) (by repeat (first | exact subPnil | refine subPcons 1 rfl ?_))
 ·skip
  obtain rfl : q = l.length := by omega
  rw [List.take_length]
  refine AW.exit ?_
  refine AQ.thenX ?_
  refine AQ.loopX ?_
  refine AQ.blockX rfl ?_
  refine AQ.thenN ?_
  refine AW.seq ?_
  refine AW.region ?_
  refine AO.op (O.move rfl rfl) rfl rfl rfl ?_
  refine AO.op (O.assign rfl rfl) rfl rfl rfl ?_
  refine AO.nil ?_
  refine AQ.thenN ?_
  refine AW.ret ?_
  refine AQ.scopeR ?_
  refine AQ.g ?_
  (refine G.freezeRow 0 rfl [4] (by (repeat (first | exact frNil | refine frCons rfl ?_)); done) ?_)
  refine AQ.u ?_
  try dsimp only [List.map, List.eraseIdx, List.cons_append, List.nil_append]
  refine AQ.ret1 rfl rfl ⟨_, List.nil_sublist _, .nil⟩ (⟨rfl, rfl⟩)
/-! ### Valid -/
abbrev CdOk (c : Cd) : Prop := (c.k = 97 ∨ c.k = 98 ∨ c.k = 99) ∧ (1 ≤ c.a0 ∧ c.a0 ≤ 30) ∧ (0 ≤ c.at_ ∧ c.at_ ≤ 1000000) ∧ (1 ≤ c.age ∧ c.age ≤ 30)
abbrev COk (l : List Cd) : Prop := (l.map Cd.k).Nodup ∧ ∀ c ∈ l, CdOk c
theorem COk.len {l : List Cd} (h : COk l) : l.length ≤ 3 := by
 obtain ⟨h1, h2⟩ := h
 match l, h1, h2 with
 | [], _, _ => simp
 | [_], _, _ => simp
 | [_, _], _, _ => simp
 | [_, _, _], _, _ => simp
 | a :: b :: c :: d :: l, h1, h2 =>
  exfalso
  have ha := (h2 a (by simp)).1
  have hb := (h2 b (by simp)).1
  have hc := (h2 c (by simp)).1
  have hd := (h2 d (by simp)).1
  simp only [List.map_cons, List.nodup_cons, List.mem_cons, not_or] at h1
  obtain ⟨⟨n1, n2, n3, -⟩, ⟨n4, n5, -⟩, ⟨n6, -⟩, -⟩ := h1
  rcases ha with ha | ha | ha <;> rcases hb with hb | hb | hb <;> rcases hc with hc | hc | hc <;> rcases hd with hd | hd | hd <;> simp_all
theorem take_none {l : List Cd} (h : COk l) {q : Nat} (hq : q < l.length) : posC (l.take q) (cd l q).k = -1 := posC_none fun c hc e => by
 obtain ⟨i, hi, rfl⟩ := List.getElem_of_mem hc
 have hi2 : i < q := by rw [List.length_take] at hi; omega
 rw [List.getElem_take] at e
 have e2 : (l.map Cd.k)[i]'(by rw [List.length_map]; omega) = (l.map Cd.k)[q]'(by rw [List.length_map]; omega) := by
  rw [List.getElem_map, List.getElem_map, e]; simp [hq]
 have := (List.getElem_inj h.1).1 e2
 omega
theorem cdsA_take (l : List Cd) (n : Nat) : (cdsA l).take (n * 9) = cdsA (l.take n) := flat_take cD_len l n
theorem take_fn {l : List Cd} {q : Nat} {k : UInt8} {xs : List AV} (h : xs = cdsA (l.take q)) (hq : q ≤ l.length) (hl : l.length ≤ 1000) : Sp Tryz.prog 71 [.ro false q xs, roB (keyC k)] [] (Is (.val (.int .i64 (posC (l.take q) k)))) := by
 have h2 := cfind_fn (l.take q) k (by rw [List.length_take]; omega)
 have e : (l.take q).length = q := by rw [List.length_take]; omega
 unfold roCd at h2
 rw [e] at h2
 rw [h]; exact h2
set_option maxHeartbeats 8000000 in
theorem cvalidC_fn (l : List Cd) (h : COk l) : Sp Tryz.prog 92 [roCd l] [] (Is (.val (.bool true))) := by
 have hl3 := h.len
 have hl : l.length ≤ 1000 := by omega
 have hmx : l.length ≤ maxLen := by unfold maxLen; omega
 refine Sp.enter Tryz.func92 rfl _ Tryz.ntmps92 rfl (fun w0 R0 => ?_)
 refine AW.seq ?_
 refine AW.region ?_
 refine AO.op (O.assign rfl rfl) rfl rfl rfl ?_
 refine AO.nil ?_
 refine AQ.thenN ?_
 refine AW.seq ?_
 refine AW.seq ?_
 refine AW.region ?_
 refine AO.op (O.move rfl rfl) rfl rfl rfl ?_
 refine AO.op (O.lenR rfl rfl) rfl rfl rfl ?_
 refine AO.op (O.gtr rfl rfl rfl (by exact bFalse (by omega))) rfl rfl rfl ?_
 refine AO.nil ?_
 refine AQ.thenN ?_
 refine AW.condF rfl ?_
 refine AW.skip ?_
 refine AQ.thenN ?_
 refine AW.seq ?_
 refine AW.seq ?_
 refine AW.region ?_
 refine AO.op (O.move rfl rfl) rfl rfl rfl ?_
 refine AO.op (O.lenR rfl rfl) rfl rfl rfl ?_
 refine AO.op (O.move rfl rfl) rfl rfl rfl ?_
 refine AO.nil ?_
 refine AQ.thenN ?_
 refine AW.block ?_
 refine AW.loopK [(0, _), (8, _), (9, _)] (fun nn E H => ∃ (q : Nat), (q ≤ l.length) ∧ nn = l.length - q ∧ E = [(10, .val (.int .i64 (q : Int)))] ∧ H = []) _ (⟨0, by omega, rfl, rfl, rfl⟩) (by repeat (first | exact envNil | refine envCons rfl ?_)) (by repeat (first | exact envNil | refine envCons rfl ?_)) (by repeat (exact subPnil)) ?_
 rintro nn E H ⟨q, hq, rfl, rfl, rfl⟩
 dsimp only [List.cons_append, List.nil_append]
 refine AW.seq ?_
 refine AW.region ?_
 refine AO.op (O.lss rfl rfl rfl (by rfl)) rfl rfl rfl ?_
 refine AO.nil ?_
 refine AQ.thenN ?_
 refine AW.seq ?_
 refine AW.split rfl (fun hlt => ?_) (fun hlt => ?_) <;> (try simp only [decide_eq_true_eq, decide_eq_false_iff_not, beq_iff_eq, beq_eq_false_iff_ne, bne_iff_ne, bne_eq_false_iff_eq, Bool.not_eq_true', Bool.not_eq_false', Bool.not_eq_true, Bool.not_eq_false, ne_eq, Int.not_lt, Int.not_le, Bool.and_eq_true, Bool.or_eq_true, Bool.or_eq_false_iff, Bool.and_eq_false_imp, strOf_toList, Decidable.not_not] at hlt)
 ·skip
  have hql : q < l.length := by omega
  have hpn := take_none h hql
  have hco : CdOk (cd l q) := h.2 _ (getD_mem Cd.none hql)
  obtain ⟨-, -, ha1, ha2⟩ := id hco
  have hct := cdsA_take l q
  refine AW.skip ?_
  refine AQ.thenN ?_
  refine AW.seq ?_
  refine AW.block ?_
  refine AW.seq ?_
  refine AW.region ?_
  refine AO.op (O.move rfl rfl) rfl rfl rfl ?_
  refine AO.op (O.idxR rfl rfl rfl ⟨(by omega), (by omega)⟩) rfl rfl rfl ?_
  refine AO.op (O.loadRK rfl rfl (by exact getCd hql (by omega)) (by rfl)) rfl rfl rfl ?_
  refine AO.opB (O.alloc rfl (by (dsimp only [zerosA, List.replicate, List.append, List.flatten, AV.cells, Value.cells, List.toList_toArray, List.map]; done)) (by rfl)) rfl rfl rfl ?_
  intro B1
  refine AO.op (O.assign rfl rfl) rfl rfl rfl ?_
  (refine AO.store (i := 0) rfl rfl rfl rfl rfl rfl (by rfl) (by rfl) (by rfl) (by (dsimp only [List.set, List.cons_append, List.nil_append, List.take, List.drop]; done)) (by (dsimp only [List.set, List.cons_append, List.nil_append, List.take, List.drop]; done)) ?_)
  refine AO.nil ?_
  refine AQ.thenN ?_
  refine AW.seq ?_
  refine AW.seq ?_
  refine AW.regionD 23 (by kernel_rfl) (by kernel_rfl) ?_
  simp only [List.take_succ_cons, List.take_zero, List.drop_succ_cons, List.drop_zero]
  refine FA.op (O.fieldAddr rfl rfl) rfl rfl rfl rfl ?_
  refine FA.op (O.load rfl rfl (by repeat (exact List.Mem.head _)) (by rfl)) rfl rfl rfl rfl ?_
  refine FA.op (O.call rfl Tryz.func93 rfl rfl rfl (ckeyed_fn (cd l q).k)) rfl rfl rfl rfl ?_
  refine FA.op (O.not rfl rfl (by rfl)) rfl rfl rfl rfl ?_
  refine FA.op (O.move rfl rfl) rfl rfl rfl rfl ?_
  refine FA.op (O.fieldAddr rfl rfl) rfl rfl rfl rfl ?_
  refine FA.op (O.load rfl rfl (by repeat (exact List.Mem.head _)) (by rfl)) rfl rfl rfl rfl ?_
  refine FA.op (O.lss rfl rfl rfl (by exact bFalse (by omega))) rfl rfl rfl rfl ?_
  refine FA.op (O.pickF rfl rfl rfl) rfl rfl rfl rfl ?_
  refine FA.op (O.move rfl rfl) rfl rfl rfl rfl ?_
  refine FA.op (O.fieldAddr rfl rfl) rfl rfl rfl rfl ?_
  refine FA.op (O.load rfl rfl (by repeat (exact List.Mem.head _)) (by rfl)) rfl rfl rfl rfl ?_
  refine FA.op (O.lss rfl rfl rfl (by exact bFalse (by omega))) rfl rfl rfl rfl ?_
  refine FA.op (O.pickF rfl rfl rfl) rfl rfl rfl rfl ?_
  refine FA.op (O.move rfl rfl) rfl rfl rfl rfl ?_
  refine FA.op (O.move rfl rfl) rfl rfl rfl rfl ?_
  refine FA.op (O.move rfl rfl) rfl rfl rfl rfl ?_
  refine FA.op (O.sliceTo rfl rfl rfl (by rfl) (by omega) (by rfl)) rfl rfl rfl rfl ?_
  refine FA.op (O.fieldAddr rfl rfl) rfl rfl rfl rfl ?_
  refine FA.op (O.load rfl rfl (by repeat (exact List.Mem.head _)) (by rfl)) rfl rfl rfl rfl ?_
  refine FA.op (O.call rfl Tryz.func71 rfl rfl rfl (take_fn (l := l) (q := q) hct hq hl)) rfl rfl rfl rfl ?_
  refine FA.op (O.geq rfl rfl rfl (by exact bFalse (by omega))) rfl rfl rfl rfl ?_
  refine FA.op (O.pickF rfl rfl rfl) rfl rfl rfl rfl ?_
  refine FA.nil ?_
  simp only [chosen, List.nil_append, List.cons_append, List.append_nil]
  refine AO.nil ?_
  refine AQ.thenN ?_
  refine AW.split rfl (fun hbad => ?_) (fun hbad => ?_) <;> (try simp only [decide_eq_true_eq, decide_eq_false_iff_not, beq_iff_eq, beq_eq_false_iff_ne, bne_iff_ne, bne_eq_false_iff_eq, Bool.not_eq_true', Bool.not_eq_false', Bool.not_eq_true, Bool.not_eq_false, ne_eq, Int.not_lt, Int.not_le, Bool.and_eq_true, Bool.or_eq_true, Bool.or_eq_false_iff, Bool.and_eq_false_imp, strOf_toList, Decidable.not_not] at hbad)
  ·skip
   exfalso; simp only [Bool.false_eq_true, or_false] at hbad <;> omega
  ·skip
   refine AW.skip ?_
   refine AQ.thenN ?_
   refine AW.seq ?_
   refine AW.region ?_
   refine AO.op (O.fieldAddr rfl rfl) rfl rfl rfl ?_
   refine AO.op (O.loadK rfl rfl (by repeat (exact List.Mem.head _)) (by rfl) (by rfl)) rfl rfl rfl ?_
   refine AO.op (O.call rfl Tryz.func53 rfl rfl rfl (validR_fn (cd l q).v (cd l q).a0)) rfl rfl rfl ?_
   refine AO.op (O.not rfl rfl (by rfl)) rfl rfl rfl ?_
   refine AO.op (O.move rfl rfl) rfl rfl rfl ?_
   refine AO.op (O.fieldAddr rfl rfl) rfl rfl rfl ?_
   refine AO.op (O.loadK rfl rfl (by repeat (exact List.Mem.head _)) (by rfl) (by rfl)) rfl rfl rfl ?_
   refine AO.op (O.call rfl Tryz.func115 rfl rfl rfl (cbare_fn (cd l q).v (cd l q).a0)) rfl rfl rfl ?_
   refine AO.op (O.not rfl rfl (by rfl)) rfl rfl rfl ?_
   refine AO.op (O.pickF rfl rfl rfl) rfl rfl rfl ?_
   refine AO.op (O.move rfl rfl) rfl rfl rfl ?_
   refine AO.op (O.fieldAddr rfl rfl) rfl rfl rfl ?_
   refine AO.op (O.fieldAddr rfl rfl) rfl rfl rfl ?_
   refine AO.op (O.load rfl rfl (by repeat (exact List.Mem.head _)) (by rfl)) rfl rfl rfl ?_
   refine AO.op (O.call rfl Tryz.func59 rfl rfl rfl (resp_fn 69)) rfl rfl rfl ?_
   refine AO.op (O.not rfl rfl (by rfl)) rfl rfl rfl ?_
   refine AO.op (O.pickF rfl rfl rfl) rfl rfl rfl ?_
   refine AO.nil ?_
   refine AQ.thenN ?_
   refine AW.condF rfl ?_
   refine AW.skip ?_
   refine AQ.blockN ?_
   refine AQ.thenN ?_
   refine AW.region ?_
   refine AO.op (O.add rfl rfl rfl (by exact wI64 (by omega))) rfl rfl rfl ?_
   refine AO.op (O.move rfl rfl) rfl rfl rfl ?_
   refine AO.nil ?_
   refine AQ.loopKN _ _ _ (by omega) (⟨q + 1, by omega, rfl, rfl, rfl⟩) (by repeat (first | exact envNil | refine envCons rfl ?_)) (by repeat (first | exact envNil | refine envCons rfl ?_)) (by repeat (exact subPnil))
 ·skip
  refine AW.exit ?_
  refine AQ.thenX ?_
  refine AQ.loopX ?_
  refine AQ.blockX rfl ?_
  refine AQ.thenN ?_
  refine AW.seq ?_
  refine AW.region ?_
  refine AO.op (O.assign rfl rfl) rfl rfl rfl ?_
  refine AO.nil ?_
  refine AQ.thenN ?_
  refine AW.ret ?_
  refine AQ.ret1 rfl rfl ⟨_, List.nil_sublist _, .nil⟩ (⟨rfl, rfl⟩)
end Go.Proofs.YtoonnnifelnaiaaGreatDoor.By

namespace Go.Proofs.YtoonnnifelnaiaaGreatDoor.By
open Go.RowKit L A Dk
set_option linter.unusedVariables false
set_option maxRecDepth 20000
set_option linter.unusedSimpArgs false
attribute [local irreducible] AW AQ AO
theorem argument_fn (l : List Cd) (k : UInt8) (now : Int) (h : COk l) (hn : 0 ≤ now ∧ now ≤ 1000000) : Sp Tryz.prog 72 [roCd l, roB (keyC k), .val (.int .i64 now)] [] (Is (.val (.int .i64 0))) := by
 refine Sp.enter Tryz.func72 rfl _ Tryz.ntmps72 rfl (fun w0 R0 => ?_)
 refine AW.seq ?_
 refine AW.region ?_
 refine AO.op (O.assign rfl rfl) rfl rfl rfl ?_
 refine AO.nil ?_
 refine AQ.thenN ?_
 refine AW.seq ?_
 refine AW.seq ?_
 refine AW.region ?_
 refine AO.op (O.move rfl rfl) rfl rfl rfl ?_
 refine AO.op (O.call rfl Tryz.func92 rfl rfl rfl (cvalidC_fn l h)) rfl rfl rfl ?_
 refine AO.op (O.not rfl rfl (by rfl)) rfl rfl rfl ?_
 refine AO.op (O.move rfl rfl) rfl rfl rfl ?_
 refine AO.op (O.move rfl rfl) rfl rfl rfl ?_
 refine AO.op (O.call rfl Tryz.func93 rfl rfl rfl (ckeyed_fn k)) rfl rfl rfl ?_
 refine AO.op (O.not rfl rfl (by rfl)) rfl rfl rfl ?_
 refine AO.op (O.pickF rfl rfl rfl) rfl rfl rfl ?_
 refine AO.op (O.move rfl rfl) rfl rfl rfl ?_
 refine AO.op (O.move rfl rfl) rfl rfl rfl ?_
 refine AO.op (O.lss rfl rfl rfl (by exact bFalse (by omega))) rfl rfl rfl ?_
 refine AO.op (O.pickF rfl rfl rfl) rfl rfl rfl ?_
 refine AO.op (O.move rfl rfl) rfl rfl rfl ?_
 refine AO.op (O.move rfl rfl) rfl rfl rfl ?_
 refine AO.op (O.gtr rfl rfl rfl (by exact bFalse (by omega))) rfl rfl rfl ?_
 refine AO.op (O.pickF rfl rfl rfl) rfl rfl rfl ?_
 refine AO.nil ?_
 refine AQ.thenN ?_
 refine AW.split rfl (fun hbad => ?_) (fun hbad => ?_) <;> (try simp only [decide_eq_true_eq, decide_eq_false_iff_not, beq_iff_eq, beq_eq_false_iff_ne, bne_iff_ne, bne_eq_false_iff_eq, Bool.not_eq_true', Bool.not_eq_false', Bool.not_eq_true, Bool.not_eq_false, ne_eq, Int.not_lt, Int.not_le, Bool.and_eq_true, Bool.or_eq_true, Bool.or_eq_false_iff, Bool.and_eq_false_imp, strOf_toList, Decidable.not_not] at hbad)
 ·skip
  exfalso; simp only [Bool.false_eq_true, false_or, or_false] at hbad <;> omega
 ·skip
  refine AW.skip ?_
  refine AQ.thenN ?_
  refine AW.seq ?_
  refine AW.region ?_
  refine AO.op (O.assign rfl rfl) rfl rfl rfl ?_
  refine AO.nil ?_
  refine AQ.thenN ?_
  refine AW.ret ?_
  refine AQ.ret1 rfl rfl ⟨_, List.nil_sublist _, .nil⟩ (⟨rfl, rfl⟩)
/-! ### Lookup -/
theorem fromU1 {n : Int} (h : 1 ≤ n ∧ n ≤ 255) : fromU n = [u8 n] := by
 unfold fromU
 have h1 : ¬ 0 < n / 16777216 := by omega
 have h2 : ¬ 0 < n / 65536 := by omega
 have h3 : ¬ 0 < n / 256 := by omega
 have h4 : 0 < n / 1 := by omega
 rw [List.filter_cons_of_neg (by simpa using h1), List.filter_cons_of_neg (by simpa using h2), List.filter_cons_of_neg (by simpa using h3), List.filter_cons_of_pos (by simpa using h4)]
 simp
theorem fromC_fn (n : Int) (h : 1 ≤ n ∧ n ≤ 255) : Sp Tryz.prog 16 [.val (.int .i64 n)] [] (Is (roB [u8 n])) := by
 have h2 := fromuint_fn n (by omega)
 rw [fromU1 h] at h2
 exact h2
theorem setC_fn (co : Int) (v : UInt8) (a b : Int) (p : List UInt8) (hp : p.length ≤ 1000) : Sp Tryz.prog 15 [aggM ⟨0, co, 0, [], optC v a, p⟩, .val (.int .i64 14), roBs [[u8 b]]] [] (Is (aggM ⟨0, co, 0, [], optC v b, p⟩)) :=
 oset_fn ⟨0, co, 0, [], optC v a, p⟩ 14 [[u8 b]] (by simp) (by show p.length ≤ _; omega) (by simp) (by simp) optC_mem (fun w hw => by obtain rfl := List.mem_singleton.1 hw; simp)
theorem cellCd {l : List Cd} {q : Nat} (h : q < l.length) (c : Nat) (hc : c < 9) {j : Nat} (hj : j = q * 9 + c) {v : AV} (hv : (cD (cd l q))[c]? = some v) : (cdsA l)[j]? = some v := by
 have h2 := congrArg (fun x : List AV => x[c]?) (getCd h rfl)
 have h3 : (((cdsA l).drop (q * 9)).take 9)[c]? = (cdsA l)[j]? := by
  rw [List.getElem?_take, if_pos hc, List.getElem?_drop, hj]
 rw [← h3]
 exact h2.trans hv
theorem respCd {l : List Cd} {q : Nat} (h : q < l.length) {j : Nat} (hj : j = q * 9 + 1) : ((cdsA l).drop j).take 6 = [.val (.int .i64 0), .val (.int .i64 69), .val (.int .i64 0), roB [], roO (optC (cd l q).v (cd l q).a0), roB [(cd l q).v]] := by
 have h2 := congrArg (fun x : List AV => (x.drop 1).take 6) (getCd h rfl)
 have h3 : ((((cdsA l).drop (q * 9)).take 9).drop 1).take 6 = ((cdsA l).drop j).take 6 := by
  rw [List.drop_take, List.take_take, List.drop_drop, hj]
  rfl
 rw [← h3]
 exact h2
abbrev Live (c : Cd) (now : Int) : Prop := c.at_ ≤ now ∧ now - c.at_ < c.age
abbrev resL (m : Msg) (b : Bool) : AV := .tup [aggM m, .val (.bool b)]
set_option maxHeartbeats 8000000 in
theorem lookup0_fn (l : List Cd) (k : UInt8) (now : Int) (h : COk l) (hp : posC l k = -1) : Sp Tryz.prog 32 [roCd l, roB (keyC k), .val (.int .i64 now)] [] (Is (resL Msg.none false)) := by
 have hl3 := h.len
 have hcf : Sp Tryz.prog 71 [roCd l, roB (keyC k)] [] (Is (.val (.int .i64 (-1)))) := by
  have h2 := cfind_fn l k (by omega)
  rw [hp] at h2; exact h2
 refine Sp.enter Tryz.func32 rfl _ Tryz.ntmps32 rfl (fun w0 R0 => ?_)
 refine AW.seq ?_
 refine AW.region ?_
 refine AO.opB (O.alloc rfl (by (dsimp only [zerosA, List.replicate, List.append, List.flatten, AV.cells, Value.cells, List.toList_toArray, List.map]; done)) (by rfl)) rfl rfl rfl ?_
 intro B1
 refine AO.op (O.assign rfl rfl) rfl rfl rfl ?_
 refine AO.nil ?_
 refine AQ.thenN ?_
 refine AW.seq ?_
 refine AW.region ?_
 refine AO.op (O.move rfl rfl) rfl rfl rfl ?_
 refine AO.op (O.move rfl rfl) rfl rfl rfl ?_
 refine AO.op (O.call rfl Tryz.func71 rfl rfl rfl (hcf)) rfl rfl rfl ?_
 refine AO.op (O.assign rfl rfl) rfl rfl rfl ?_
 refine AO.nil ?_
 refine AQ.thenN ?_
 refine AW.seq ?_
 refine AW.seq ?_
 refine AW.regionD 26 (by kernel_rfl) (by kernel_rfl) ?_
 simp only [List.take_succ_cons, List.take_zero, List.drop_succ_cons, List.drop_zero]
 refine FA.op (O.move rfl rfl) rfl rfl rfl rfl ?_
 refine FA.op (O.lss rfl rfl rfl (by exact bTrue (by omega))) rfl rfl rfl rfl ?_
 refine FA.op (O.move rfl rfl) rfl rfl rfl rfl ?_
 refine FA.no rfl rfl rfl rfl ?_
 refine FA.no rfl rfl rfl rfl ?_
 refine FA.no rfl rfl rfl rfl ?_
 refine FA.no rfl rfl rfl rfl ?_
 refine FA.no rfl rfl rfl rfl ?_
 refine FA.no rfl rfl rfl rfl ?_
 refine FA.no rfl rfl rfl rfl ?_
 refine FA.op (O.pickT rfl rfl rfl) rfl rfl rfl rfl ?_
 refine FA.op (O.move rfl rfl) rfl rfl rfl rfl ?_
 refine FA.no rfl rfl rfl rfl ?_
 refine FA.no rfl rfl rfl rfl ?_
 refine FA.no rfl rfl rfl rfl ?_
 refine FA.no rfl rfl rfl rfl ?_
 refine FA.no rfl rfl rfl rfl ?_
 refine FA.no rfl rfl rfl rfl ?_
 refine FA.no rfl rfl rfl rfl ?_
 refine FA.no rfl rfl rfl rfl ?_
 refine FA.no rfl rfl rfl rfl ?_
 refine FA.no rfl rfl rfl rfl ?_
 refine FA.no rfl rfl rfl rfl ?_
 refine FA.no rfl rfl rfl rfl ?_
 refine FA.no rfl rfl rfl rfl ?_
 refine FA.op (O.pickT rfl rfl rfl) rfl rfl rfl rfl ?_
 refine FA.nil ?_
 simp only [chosen, List.nil_append, List.cons_append, List.append_nil]
 refine AO.nil ?_
 refine AQ.thenN ?_
 refine AW.condT rfl ?_
 refine AW.seq ?_
 refine AW.region ?_
 refine AO.op (O.build rfl rfl rfl (by rfl)) rfl rfl rfl ?_
 (refine AO.store (i := 0) rfl rfl rfl rfl rfl rfl (by rfl) (by rfl) (by rfl) (by (dsimp only [List.set, List.cons_append, List.nil_append, List.take, List.drop]; done)) (by (dsimp only [List.set, List.cons_append, List.nil_append, List.take, List.drop]; done)) ?_)
 refine AO.op (O.assign rfl rfl) rfl rfl rfl ?_
 refine AO.nil ?_
 refine AQ.thenN ?_
 refine AW.ret ?_
 refine AQ.thenR ?_
 refine FnQ.coe (AQ.retCT rfl rfl rfl (by repeat (exact List.Mem.head _)) (by (dsimp only [List.set, List.cons_append, List.nil_append, List.take, List.drop]; done)) (by rfl) ⟨_, List.nil_sublist _, .nil⟩ ⟨rfl, rfl⟩) (Coe.tup (by (repeat (first | exact CoeL.nil | refine CoeL.cons Coe.rfl ?_ | refine CoeL.cons Coe.nil ?_ | refine CoeL.cons (Coe.agg ?_) ?_)); done)) (⟨rfl, rfl⟩)
set_option maxHeartbeats 8000000 in
theorem lookup1_fn (l : List Cd) (k : UInt8) (now : Int) (q : Nat) (h : COk l) (hp : posC l k = (q : Int)) (hq : q < l.length) (hn : 0 ≤ now ∧ now ≤ 1000000) : Sp Tryz.prog 32 [roCd l, roB (keyC k), .val (.int .i64 now)] [] (Is (if Live (cd l q) now then resL (rsC (cd l q).v ((cd l q).age - (now - (cd l q).at_))) true else resL Msg.none false)) := by
 have hl3 := h.len
 have hco : CdOk (cd l q) := h.2 _ (getD_mem Cd.none hq)
 obtain ⟨-, -, ha1, ha2⟩ := id hco
 have hcf : Sp Tryz.prog 71 [roCd l, roB (keyC k)] [] (Is (.val (.int .i64 (q : Int)))) := by
  have h2 := cfind_fn l k (by omega)
  rw [hp] at h2; exact h2
 refine Sp.enter Tryz.func32 rfl _ Tryz.ntmps32 rfl (fun w0 R0 => ?_)
 refine AW.seq ?_
 refine AW.region ?_
 refine AO.opB (O.alloc rfl (by (dsimp only [zerosA, List.replicate, List.append, List.flatten, AV.cells, Value.cells, List.toList_toArray, List.map]; done)) (by rfl)) rfl rfl rfl ?_
 intro B1
 refine AO.op (O.assign rfl rfl) rfl rfl rfl ?_
 refine AO.nil ?_
 refine AQ.thenN ?_
 refine AW.seq ?_
 refine AW.region ?_
 refine AO.op (O.move rfl rfl) rfl rfl rfl ?_
 refine AO.op (O.move rfl rfl) rfl rfl rfl ?_
 refine AO.op (O.call rfl Tryz.func71 rfl rfl rfl (hcf)) rfl rfl rfl ?_
 refine AO.op (O.assign rfl rfl) rfl rfl rfl ?_
 refine AO.nil ?_
 refine AQ.thenN ?_
 refine AW.seq ?_
 refine AW.seq ?_
 refine AW.regionD 26 (by kernel_rfl) (by kernel_rfl) ?_
 simp only [List.take_succ_cons, List.take_zero, List.drop_succ_cons, List.drop_zero]
 refine FA.op (O.move rfl rfl) rfl rfl rfl rfl ?_
 refine FA.op (O.lss rfl rfl rfl (by exact bFalse (by omega))) rfl rfl rfl rfl ?_
 refine FA.op (O.move rfl rfl) rfl rfl rfl rfl ?_
 refine FA.op (O.move rfl rfl) rfl rfl rfl rfl ?_
 refine FA.op (O.move rfl rfl) rfl rfl rfl rfl ?_
 refine FA.op (O.move rfl rfl) rfl rfl rfl rfl ?_
 refine FA.op (O.idxR rfl rfl rfl ⟨(by omega), (by omega)⟩) rfl rfl rfl rfl ?_
 refine FA.op (O.fieldAddrR rfl rfl) rfl rfl rfl rfl ?_
 refine FA.op (O.loadR rfl rfl (by exact cellCd hq 7 (by omega) (by omega) rfl)) rfl rfl rfl rfl ?_
 refine FA.op (O.lss rfl rfl rfl (by rfl)) rfl rfl rfl rfl ?_
 refine FA.op (O.pickF rfl rfl rfl) rfl rfl rfl rfl ?_
 refine FA.op (O.move rfl rfl) rfl rfl rfl rfl ?_
 refine FA.opG rfl rfl rfl rfl (fun hp => O.move rfl rfl) ?_
 refine FA.opG rfl rfl rfl rfl (fun hp => O.move rfl rfl) ?_
 refine FA.opG rfl rfl rfl rfl (fun hp => O.move rfl rfl) ?_
 refine FA.opG rfl rfl rfl rfl (fun hp => OpW.force 25 rfl (by exact hp) (OpW.force 26 rfl (by exact hp) (O.idxR rfl rfl rfl ⟨(by omega), (by omega)⟩))) ?_
 refine FA.opG rfl rfl rfl rfl (fun hp => OpW.force 27 rfl (by exact hp) (O.fieldAddrR rfl rfl)) ?_
 refine FA.opG rfl rfl rfl rfl (fun hp => OpW.force 28 rfl (by exact hp) (O.loadR rfl rfl (by exact cellCd hq 7 (by omega) (by omega) rfl))) ?_
 refine FA.opG rfl rfl rfl rfl (fun hp => OpW.force 24 rfl (by exact hp) (OpW.force 29 rfl (by exact hp) (O.sub rfl rfl rfl (by exact wI64 (by omega))))) ?_
 refine FA.opG rfl rfl rfl rfl (fun hp => O.move rfl rfl) ?_
 refine FA.opG rfl rfl rfl rfl (fun hp => O.move rfl rfl) ?_
 refine FA.opG rfl rfl rfl rfl (fun hp => OpW.force 31 rfl (by exact hp) (OpW.force 32 rfl (by exact hp) (O.idxR rfl rfl rfl ⟨(by omega), (by omega)⟩))) ?_
 refine FA.opG rfl rfl rfl rfl (fun hp => OpW.force 33 rfl (by exact hp) (O.fieldAddrR rfl rfl)) ?_
 refine FA.opG rfl rfl rfl rfl (fun hp => OpW.force 34 rfl (by exact hp) (O.loadR rfl rfl (by exact cellCd hq 8 (by omega) (by omega) rfl))) ?_
 refine FA.opG rfl rfl rfl rfl (fun hp => OpW.force 30 rfl (by exact hp) (OpW.force 35 rfl (by exact hp) (O.geq rfl rfl rfl (by rfl)))) ?_
 refine FA.op (O.pickOr rfl rfl rfl rfl (fun h => by exact congrArg (fun b => !b) h)) rfl rfl rfl rfl ?_
 refine FA.nil ?_
 simp only [chosen, List.nil_append, List.cons_append, List.append_nil]
 refine AO.nil ?_
 refine AQ.thenN ?_
 refine AW.split rfl (fun hx => ?_) (fun hx => ?_) <;> (try simp only [decide_eq_true_eq, decide_eq_false_iff_not, beq_iff_eq, beq_eq_false_iff_ne, bne_iff_ne, bne_eq_false_iff_eq, Bool.not_eq_true', Bool.not_eq_false', Bool.not_eq_true, Bool.not_eq_false, ne_eq, Int.not_lt, Int.not_le, Bool.and_eq_true, Bool.or_eq_true, Bool.or_eq_false_iff, Bool.and_eq_false_imp, strOf_toList, Decidable.not_not] at hx)
 ·skip
  rw [if_neg (by omega)]
  refine AW.seq ?_
  refine AW.region ?_
  refine AO.op (O.build rfl rfl rfl (by rfl)) rfl rfl rfl ?_
  (refine AO.store (i := 0) rfl rfl rfl rfl rfl rfl (by rfl) (by rfl) (by rfl) (by (dsimp only [List.set, List.cons_append, List.nil_append, List.take, List.drop]; done)) (by (dsimp only [List.set, List.cons_append, List.nil_append, List.take, List.drop]; done)) ?_)
  refine AO.op (O.assign rfl rfl) rfl rfl rfl ?_
  refine AO.nil ?_
  refine AQ.thenN ?_
  refine AW.ret ?_
  refine AQ.thenR ?_
  refine FnQ.coe (AQ.retCT rfl rfl rfl (by repeat (exact List.Mem.head _)) (by (dsimp only [List.set, List.cons_append, List.nil_append, List.take, List.drop]; done)) (by rfl) ⟨_, List.nil_sublist _, .nil⟩ ⟨rfl, rfl⟩) (Coe.tup (by (repeat (first | exact CoeL.nil | refine CoeL.cons Coe.rfl ?_ | refine CoeL.cons Coe.nil ?_ | refine CoeL.cons (Coe.agg ?_) ?_)); done)) (⟨rfl, rfl⟩)
 ·skip
  rw [if_pos (by omega)]
  refine AW.skip ?_
  refine AQ.thenN ?_
  refine AW.seq ?_
  refine AW.regionD 21 (by kernel_rfl) (by kernel_rfl) ?_
  simp only [List.take_succ_cons, List.take_zero, List.drop_succ_cons, List.drop_zero]
  refine FA.op (O.move rfl rfl) rfl rfl rfl rfl ?_
  refine FA.op (O.move rfl rfl) rfl rfl rfl rfl ?_
  refine FA.op (O.idxR rfl rfl rfl ⟨(by omega), (by omega)⟩) rfl rfl rfl rfl ?_
  refine FA.op (O.fieldAddrR rfl rfl) rfl rfl rfl rfl ?_
  refine FA.op (O.loadRK rfl rfl (by exact respCd hq (by omega)) (by rfl)) rfl rfl rfl rfl ?_
  refine FA.op (O.move rfl rfl) rfl rfl rfl rfl ?_
  refine FA.op (O.move rfl rfl) rfl rfl rfl rfl ?_
  refine FA.op (O.idxR rfl rfl rfl ⟨(by omega), (by omega)⟩) rfl rfl rfl rfl ?_
  refine FA.op (O.fieldAddrR rfl rfl) rfl rfl rfl rfl ?_
  refine FA.op (O.loadR rfl rfl (by exact cellCd hq 8 (by omega) (by omega) rfl)) rfl rfl rfl rfl ?_
  refine FA.op (O.move rfl rfl) rfl rfl rfl rfl ?_
  refine FA.op (O.move rfl rfl) rfl rfl rfl rfl ?_
  refine FA.op (O.move rfl rfl) rfl rfl rfl rfl ?_
  refine FA.op (O.idxR rfl rfl rfl ⟨(by omega), (by omega)⟩) rfl rfl rfl rfl ?_
  refine FA.op (O.fieldAddrR rfl rfl) rfl rfl rfl rfl ?_
  refine FA.op (O.loadR rfl rfl (by exact cellCd hq 7 (by omega) (by omega) rfl)) rfl rfl rfl rfl ?_
  refine FA.op (O.sub rfl rfl rfl (by exact wI64 (by omega))) rfl rfl rfl rfl ?_
  refine FA.op (O.sub rfl rfl rfl (by exact wI64 (by omega))) rfl rfl rfl rfl ?_
  refine FA.op (O.call rfl Tryz.func16 rfl rfl rfl (fromC_fn _ (by omega))) rfl rfl rfl rfl ?_
  refine FA.op (OpW.frz (O.buildSlice rfl rfl rfl (by rfl) (by rfl) (by rfl) (by rfl)) (by (unfold maxLen; omega))) rfl rfl rfl rfl ?_
  refine FA.op (O.call rfl Tryz.func15 rfl rfl rfl (setC_fn 69 (cd l q).v (cd l q).a0 _ [(cd l q).v] (by simp))) rfl rfl rfl rfl ?_
  refine FA.nil ?_
  simp only [chosen, List.nil_append, List.cons_append, List.append_nil]
  (refine AO.store (i := 0) rfl rfl rfl rfl rfl rfl (by rfl) (by rfl) (by rfl) (by (dsimp only [List.set, List.cons_append, List.nil_append, List.take, List.drop]; done)) (by (dsimp only [List.set, List.cons_append, List.nil_append, List.take, List.drop]; done)) ?_)
  refine AO.op (O.assign rfl rfl) rfl rfl rfl ?_
  refine AO.nil ?_
  refine AQ.thenN ?_
  refine AW.ret ?_
  refine AQ.retCT rfl rfl rfl (by repeat (exact List.Mem.head _)) (by (dsimp only [List.set, List.cons_append, List.nil_append, List.take, List.drop]; rfl)) rfl ⟨_, List.nil_sublist _, .nil⟩ (⟨rfl, rfl⟩)
/-! ### Tag -/
theorem tag0_fn (l : List Cd) (k : UInt8) (h : COk l) (hp : posC l k = -1) : Sp Tryz.prog 33 [roCd l, roB (keyC k)] [] (Is (.tup [roB [], .val (.bool false)])) := by
 have hl3 := h.len
 have hcf : Sp Tryz.prog 71 [roCd l, roB (keyC k)] [] (Is (.val (.int .i64 (-1)))) := by
  have h2 := cfind_fn l k (by omega)
  rw [hp] at h2; exact h2
 refine Sp.enter Tryz.func33 rfl _ Tryz.ntmps33 rfl (fun w0 R0 => ?_)
 refine AW.seq ?_
 refine AW.region ?_
 refine AO.op (O.assign rfl rfl) rfl rfl rfl ?_
 refine AO.op (O.assign rfl rfl) rfl rfl rfl ?_
 refine AO.nil ?_
 refine AQ.thenN ?_
 refine AW.seq ?_
 refine AW.region ?_
 refine AO.op (O.move rfl rfl) rfl rfl rfl ?_
 refine AO.op (O.move rfl rfl) rfl rfl rfl ?_
 refine AO.op (O.call rfl Tryz.func71 rfl rfl rfl (hcf)) rfl rfl rfl ?_
 refine AO.op (O.assign rfl rfl) rfl rfl rfl ?_
 refine AO.nil ?_
 refine AQ.thenN ?_
 refine AW.seq ?_
 refine AW.seq ?_
 refine AW.region ?_
 refine AO.op (O.move rfl rfl) rfl rfl rfl ?_
 refine AO.op (O.lss rfl rfl rfl (by exact bTrue (by omega))) rfl rfl rfl ?_
 refine AO.nil ?_
 refine AQ.thenN ?_
 refine AW.condT rfl ?_
 refine AW.seq ?_
 refine AW.region ?_
 refine AO.op (O.assign rfl rfl) rfl rfl rfl ?_
 refine AO.op (O.assign rfl rfl) rfl rfl rfl ?_
 refine AO.nil ?_
 refine AQ.thenN ?_
 refine AW.ret ?_
 refine AQ.thenR ?_
 refine FnQ.coe (AQ.ret2 rfl rfl rfl ⟨_, List.nil_sublist _, .nil⟩ ⟨rfl, rfl⟩) (Coe.tup (by (repeat (first | exact CoeL.nil | refine CoeL.cons Coe.rfl ?_ | refine CoeL.cons Coe.nil ?_)); done)) (⟨rfl, rfl⟩)
theorem tag1_fn (l : List Cd) (k : UInt8) (q : Nat) (h : COk l) (hp : posC l k = (q : Int)) (hq : q < l.length) : Sp Tryz.prog 33 [roCd l, roB (keyC k)] [] (Is (.tup [roB [(cd l q).v], .val (.bool true)])) := by
 have hl3 := h.len
 have hcf : Sp Tryz.prog 71 [roCd l, roB (keyC k)] [] (Is (.val (.int .i64 (q : Int)))) := by
  have h2 := cfind_fn l k (by omega)
  rw [hp] at h2; exact h2
 refine Sp.enter Tryz.func33 rfl _ Tryz.ntmps33 rfl (fun w0 R0 => ?_)
 refine AW.seq ?_
 refine AW.region ?_
 refine AO.op (O.assign rfl rfl) rfl rfl rfl ?_
 refine AO.op (O.assign rfl rfl) rfl rfl rfl ?_
 refine AO.nil ?_
 refine AQ.thenN ?_
 refine AW.seq ?_
 refine AW.region ?_
 refine AO.op (O.move rfl rfl) rfl rfl rfl ?_
 refine AO.op (O.move rfl rfl) rfl rfl rfl ?_
 refine AO.op (O.call rfl Tryz.func71 rfl rfl rfl (hcf)) rfl rfl rfl ?_
 refine AO.op (O.assign rfl rfl) rfl rfl rfl ?_
 refine AO.nil ?_
 refine AQ.thenN ?_
 refine AW.seq ?_
 refine AW.seq ?_
 refine AW.region ?_
 refine AO.op (O.move rfl rfl) rfl rfl rfl ?_
 refine AO.op (O.lss rfl rfl rfl (by exact bFalse (by omega))) rfl rfl rfl ?_
 refine AO.nil ?_
 refine AQ.thenN ?_
 refine AW.condF rfl ?_
 refine AW.skip ?_
 refine AQ.thenN ?_
 refine AW.seq ?_
 refine AW.region ?_
 refine AO.op (O.move rfl rfl) rfl rfl rfl ?_
 refine AO.op (O.move rfl rfl) rfl rfl rfl ?_
 refine AO.op (O.idxR rfl rfl rfl ⟨(by omega), (by omega)⟩) rfl rfl rfl ?_
 refine AO.op (O.fieldAddrR rfl rfl) rfl rfl rfl ?_
 refine AO.op (O.loadRK rfl rfl (by exact respCd hq (by omega)) (by rfl)) rfl rfl rfl ?_
 refine AO.op (O.call rfl Tryz.func17 rfl rfl rfl (getC 69 (cd l q).v (cd l q).a0 [(cd l q).v] 4 (g4 _ _))) rfl rfl rfl ?_
 refine AO.op (O.extract rfl rfl rfl) rfl rfl rfl ?_
 refine AO.op (O.extract rfl rfl rfl) rfl rfl rfl ?_
 refine AO.op (O.assign rfl rfl) rfl rfl rfl ?_
 refine AO.op (O.assign rfl rfl) rfl rfl rfl ?_
 refine AO.nil ?_
 refine AQ.thenN ?_
 refine AW.ret ?_
 refine AQ.ret2 rfl rfl rfl ⟨_, List.nil_sublist _, .nil⟩ (⟨rfl, rfl⟩)
/-! ### Refresh -/
theorem cspl_right : ∀ (ys A X : List AV) (c j : Nat), j = A.length + c → splice (A ++ X) j ys = A ++ splice X c ys
 | [], A, X, c, j, h => rfl
 | y :: ys, A, X, c, j, h => by
  subst h
  show splice ((A ++ X).set (A.length + c) y) (A.length + c + 1) ys = A ++ splice (X.set c y) (c + 1) ys
  rw [List.set_append_right _ _ (by omega), show A.length + c - A.length = c by omega, cspl_right ys A (X.set c y) (c + 1) _ (by omega)]
theorem cspl_left : ∀ (ys B C : List AV) (c : Nat), c + ys.length ≤ B.length → splice (B ++ C) c ys = splice B c ys ++ C
 | [], B, C, c, h => rfl
 | y :: ys, B, C, c, h => by
  have h : c + (ys.length + 1) ≤ B.length := h
  show splice ((B ++ C).set c y) (c + 1) ys = splice (B.set c y) (c + 1) ys ++ C
  rw [List.set_append_left _ _ (by omega), cspl_left ys (B.set c y) C (c + 1) (by rw [List.length_set]; omega)]
theorem splice_cd {l : List Cd} {q c : Nat} (h : q < l.length) {ys : List AV} (hc : c + ys.length ≤ 9) {a : Cd} (ha : splice (cD (cd l q)) c ys = cD a) {j : Nat} (hj : j = q * 9 + c) : splice (cdsA l) j ys = cdsA (l.set q a) := by
 have e : cdsA l = (cdsA l).take (q * 9) ++ (cD (cd l q) ++ (cdsA l).drop (q * 9 + 9)) := by
  have h1 := flat_at cD_len Cd.none h rfl
  show l.flatMap cD = (l.flatMap cD).take (q * 9) ++ (cD (l.getD q Cd.none) ++ (l.flatMap cD).drop (q * 9 + 9))
  rw [← h1, ← List.drop_drop, List.take_append_drop, List.take_append_drop]
 have hl : ((cdsA l).take (q * 9)).length = q * 9 := by
  rw [List.length_take, cdsA_len, Nat.min_eq_left (Nat.mul_le_mul_right 9 (by omega))]
 rw [e, cspl_right ys _ _ c j (by rw [hl]; exact hj), cspl_left ys _ _ c (by rw [cD_len]; exact hc), ha]
 show _ = (l.set q a).flatMap cD
 rw [flat_set cD_len a h, List.append_assoc]; rfl
abbrev refC (l : List Cd) (q : Nat) (a now : Int) : List Cd := l.set q ⟨(cd l q).k, (cd l q).v, (cd l q).a0, now, a⟩
set_option maxHeartbeats 8000000 in
theorem refresh_fn (l : List Cd) (k : UInt8) (q : Nat) (a now : Int) (h : COk l) (hp : posC l k = (q : Int)) (hq : q < l.length) (ha : 1 ≤ a ∧ a ≤ 30) (hn : 0 ≤ now ∧ now ≤ 1000000) : Sp Tryz.prog 34 [roCd l, roB (keyC k), aggM (fsC (cd l q).v a), .val (.int .i64 now)] [] (Is (.tup [roCd (refC l q a now), .val (.int .i64 0)])) := by
 have hl3 := h.len
 have hll : (refC l q a now).length = l.length := List.length_set
 have e3 : roCd (refC l q a now) = .ro false l.length (cdsA (refC l q a now)) := by unfold roCd; rw [hll]
 rw [e3]
 have hcf : Sp Tryz.prog 71 [roCd l, roB (keyC k)] [] (Is (.val (.int .i64 (q : Int)))) := by
  have h2 := cfind_fn l k (by omega)
  rw [hp] at h2; exact h2
 refine Sp.enter Tryz.func34 rfl _ Tryz.ntmps34 rfl (fun w0 R0 => ?_)
 refine AW.seq ?_
 refine AW.region ?_
 refine AO.opB (O.box rfl rfl rfl rfl rfl) rfl rfl rfl ?_
 intro B1
 refine AO.op (O.assign rfl rfl) rfl rfl rfl ?_
 refine AO.op (O.assign rfl rfl) rfl rfl rfl ?_
 refine AO.nil ?_
 refine AQ.thenN ?_
 refine AW.seq ?_
 refine AW.seq ?_
 refine AW.region ?_
 refine AO.op (O.move rfl rfl) rfl rfl rfl ?_
 refine AO.op (O.move rfl rfl) rfl rfl rfl ?_
 refine AO.op (O.move rfl rfl) rfl rfl rfl ?_
 refine AO.op (O.call rfl Tryz.func72 rfl rfl rfl (argument_fn l k now h hn)) rfl rfl rfl ?_
 refine AO.op (O.assign rfl rfl) rfl rfl rfl ?_
 refine AO.nil ?_
 refine AQ.thenN ?_
 refine AW.seq ?_
 refine AW.region ?_
 refine AO.op (O.move rfl rfl) rfl rfl rfl ?_
 refine AO.op (O.neq rfl rfl rfl (by exact bne_eq_false_iff_eq.2 (by omega))) rfl rfl rfl ?_
 refine AO.op (O.move rfl rfl) rfl rfl rfl ?_
 refine AO.op (O.loadK rfl rfl (by repeat (exact List.Mem.head _)) (by rfl) (by rfl)) rfl rfl rfl ?_
 refine AO.op (O.call rfl Tryz.func53 rfl rfl rfl (validF_fn (cd l q).v a)) rfl rfl rfl ?_
 refine AO.op (O.not rfl rfl (by rfl)) rfl rfl rfl ?_
 refine AO.op (O.pickF rfl rfl rfl) rfl rfl rfl ?_
 refine AO.nil ?_
 refine AQ.thenN ?_
 refine AW.condF rfl ?_
 refine AW.skip ?_
 refine AQ.thenN ?_
 refine AW.seq ?_
 refine AW.region ?_
 refine AO.op (O.move rfl rfl) rfl rfl rfl ?_
 refine AO.op (O.move rfl rfl) rfl rfl rfl ?_
 refine AO.op (O.call rfl Tryz.func71 rfl rfl rfl (hcf)) rfl rfl rfl ?_
 refine AO.op (O.assign rfl rfl) rfl rfl rfl ?_
 refine AO.nil ?_
 refine AQ.thenN ?_
 refine AW.seq ?_
 refine AW.block ?_
 refine AW.seq ?_
 refine AW.region ?_
 refine AO.op (O.fieldAddr rfl rfl) rfl rfl rfl ?_
 refine AO.op (O.load rfl rfl (by repeat (exact List.Mem.head _)) (by rfl)) rfl rfl rfl ?_
 refine AO.op (O.neq rfl rfl rfl (by rfl)) rfl rfl rfl ?_
 refine AO.op (O.assign rfl rfl) rfl rfl rfl ?_
 refine AO.nil ?_
 refine AQ.thenN ?_
 refine AW.condF rfl ?_
 refine AW.seq ?_
 refine AW.region ?_
 refine AO.op (O.move rfl rfl) rfl rfl rfl ?_
 refine AO.op (O.lss rfl rfl rfl (by exact bFalse (by omega))) rfl rfl rfl ?_
 refine AO.op (O.assign rfl rfl) rfl rfl rfl ?_
 refine AO.nil ?_
 refine AQ.thenN ?_
 refine AW.condF rfl ?_
 refine AW.skip ?_
 refine AQ.blockN ?_
 refine AQ.thenN ?_
 refine AW.seq ?_
 refine AW.region ?_
 refine AO.op (O.move rfl rfl) rfl rfl rfl ?_
 refine AO.op (O.move rfl rfl) rfl rfl rfl ?_
 refine AO.op (O.idxR rfl rfl rfl ⟨(by omega), (by omega)⟩) rfl rfl rfl ?_
 refine AO.op (O.fieldAddrR rfl rfl) rfl rfl rfl ?_
 refine AO.op (O.loadRK rfl rfl (by exact respCd hq (by omega)) (by rfl)) rfl rfl rfl ?_
 refine AO.op (O.call rfl Tryz.func17 rfl rfl rfl (getC 69 (cd l q).v (cd l q).a0 [(cd l q).v] 4 (g4 _ _))) rfl rfl rfl ?_
 refine AO.op (O.move rfl rfl) rfl rfl rfl ?_
 refine AO.op (O.extract rfl rfl rfl) rfl rfl rfl ?_
 refine AO.op (O.extract rfl rfl rfl) rfl rfl rfl ?_
 refine AO.op (O.assign rfl rfl) rfl rfl rfl ?_
 refine AO.op (O.assign rfl rfl) rfl rfl rfl ?_
 refine AO.nil ?_
 refine AQ.thenN ?_
 refine AW.seq ?_
 refine AW.region ?_
 refine AO.op (O.loadK rfl rfl (by repeat (exact List.Mem.head _)) (by rfl) (by rfl)) rfl rfl rfl ?_
 refine AO.op (O.call rfl Tryz.func17 rfl rfl rfl (getC 67 (cd l q).v a [] 4 (g4 _ _))) rfl rfl rfl ?_
 refine AO.op (O.move rfl rfl) rfl rfl rfl ?_
 refine AO.op (O.extract rfl rfl rfl) rfl rfl rfl ?_
 refine AO.op (O.extract rfl rfl rfl) rfl rfl rfl ?_
 refine AO.op (O.assign rfl rfl) rfl rfl rfl ?_
 refine AO.op (O.assign rfl rfl) rfl rfl rfl ?_
 refine AO.nil ?_
 refine AQ.thenN ?_
 refine AW.seq ?_
 refine AW.seq ?_
 refine AW.region ?_
 refine AO.op (O.move rfl rfl) rfl rfl rfl ?_
 refine AO.op (O.not rfl rfl (by rfl)) rfl rfl rfl ?_
 refine AO.op (O.move rfl rfl) rfl rfl rfl ?_
 refine AO.op (O.move rfl rfl) rfl rfl rfl ?_
 refine AO.op (O.not rfl rfl (by rfl)) rfl rfl rfl ?_
 refine AO.op (O.pickF rfl rfl rfl) rfl rfl rfl ?_
 refine AO.op (O.move rfl rfl) rfl rfl rfl ?_
 refine AO.op (O.move rfl rfl) rfl rfl rfl ?_
 refine AO.op (O.move rfl rfl) rfl rfl rfl ?_
 refine AO.op (O.call rfl Tryz.func46 rfl rfl rfl (cequal_fn _ _)) rfl rfl rfl ?_
 refine AO.op (O.not rfl rfl (by rfl)) rfl rfl rfl ?_
 refine AO.op (O.pickF rfl rfl rfl) rfl rfl rfl ?_
 refine AO.nil ?_
 refine AQ.thenN ?_
 refine AW.split rfl (fun hbad => ?_) (fun hbad => ?_) <;> (try simp only [decide_eq_true_eq, decide_eq_false_iff_not, beq_iff_eq, beq_eq_false_iff_ne, bne_iff_ne, bne_eq_false_iff_eq, Bool.not_eq_true', Bool.not_eq_false', Bool.not_eq_true, Bool.not_eq_false, ne_eq, Int.not_lt, Int.not_le, Bool.and_eq_true, Bool.or_eq_true, Bool.or_eq_false_iff, Bool.and_eq_false_imp, strOf_toList, Decidable.not_not] at hbad)
 ·skip
  exact absurd hbad (by simp)
 ·skip
  have hl1 : q < (l.set q ⟨(cd l q).k, (cd l q).v, (cd l q).a0, now, (cd l q).age⟩).length := by rw [List.length_set]; exact hq
  have e1 : cd (l.set q ⟨(cd l q).k, (cd l q).v, (cd l q).a0, now, (cd l q).age⟩) q = ⟨(cd l q).k, (cd l q).v, (cd l q).a0, now, (cd l q).age⟩ := by simp [hq]
  have e2 : (l.set q ⟨(cd l q).k, (cd l q).v, (cd l q).a0, now, (cd l q).age⟩).set q ⟨(cd l q).k, (cd l q).v, (cd l q).a0, now, a⟩ = refC l q a now := by rw [List.set_set]
  have s1 : ∀ j, j = q * 9 + 7 → splice (cdsA l) j [.val (.int .i64 now)] = cdsA (l.set q ⟨(cd l q).k, (cd l q).v, (cd l q).a0, now, (cd l q).age⟩) := fun j hj => splice_cd hq (c := 7) (Nat.le_of_ble_eq_true rfl) rfl hj
  have s2 : ∀ j, j = q * 9 + 8 → splice (cdsA (l.set q ⟨(cd l q).k, (cd l q).v, (cd l q).a0, now, (cd l q).age⟩)) j [.val (.int .i64 a)] = cdsA (refC l q a now) := fun j hj => by rw [← e2]; exact splice_cd hl1 (c := 8) (Nat.le_of_ble_eq_true rfl) (by rw [e1]; rfl) hj
  refine AW.skip ?_
  refine AQ.thenN ?_
  refine AW.seq ?_
  refine AW.region ?_
  refine AO.op (O.move rfl rfl) rfl rfl rfl ?_
  refine AO.opRow (O.call rfl Tryz.func73 rfl rfl rfl (call_fn l (by omega))) rfl rfl rfl ?_
  intro V2 hV2
  refine AO.op (O.assign rfl rfl) rfl rfl rfl ?_
  refine AO.g ?_
  refine G.openRow 0 rfl (by omega) (fun b' cap hc1 hc2 hxs hVe => ?_)
  subst hVe
  dsimp only [List.set]
  refine AO.u ?_
  refine AO.nil ?_
  refine AQ.thenN ?_
  refine AW.seq ?_
  refine AW.region ?_
  refine AO.op (O.move rfl rfl) rfl rfl rfl ?_
  refine AO.op (O.move rfl rfl) rfl rfl rfl ?_
  refine AO.op (O.move rfl rfl) rfl rfl rfl ?_
  refine AO.op (O.move rfl rfl) rfl rfl rfl ?_
  refine AO.op (O.move rfl rfl) rfl rfl rfl ?_
  (refine AO.op (O.loadK rfl rfl (by repeat (first | exact List.Mem.head _ | refine List.Mem.tail _ ?_)) (by (dsimp only [List.set, List.cons_append, List.nil_append, List.take, List.drop]; done)) (by rfl)) rfl rfl rfl ?_)
  refine AO.op (O.call rfl Tryz.func74 rfl rfl rfl (maxage_fn 67 (cd l q).v a [] ⟨by omega, by omega⟩)) rfl rfl rfl ?_
  refine AO.op (O.idxV rfl rfl rfl ⟨(by omega), (by omega)⟩) rfl rfl rfl ?_
  refine AO.op (O.fieldAddr rfl rfl) rfl rfl rfl ?_
  (refine AO.store (i := 0) rfl rfl rfl rfl rfl rfl (by rfl) (by rfl) (by exact Nat.ble_eq_true_of_le (by rw [cdsA_len]; omega)) (by exact s1 _ (by omega)) (by (dsimp only [List.set, List.cons_append, List.nil_append, List.take, List.drop]; done)) ?_)
  refine AO.op (O.idxV rfl rfl rfl ⟨(by omega), (by omega)⟩) rfl rfl rfl ?_
  refine AO.op (O.fieldAddr rfl rfl) rfl rfl rfl ?_
  (refine AO.store (i := 0) rfl rfl rfl rfl rfl rfl (by rfl) (by rfl) (by exact Nat.ble_eq_true_of_le (by rw [cdsA_len]; omega)) (by exact s2 _ (by omega)) (by (dsimp only [List.set, List.cons_append, List.nil_append, List.take, List.drop]; done)) ?_)
  refine AO.nil ?_
  refine AQ.thenN ?_
  refine AW.seq ?_
  refine AW.region ?_
  refine AO.op (O.move rfl rfl) rfl rfl rfl ?_
  refine AO.op (O.assign rfl rfl) rfl rfl rfl ?_
  refine AO.op (O.assign rfl rfl) rfl rfl rfl ?_
  refine AO.nil ?_
  refine AQ.thenN ?_
  refine AW.ret ?_
  have hxs2 : (cdsA (refC l q a now)).length = l.length * 9 := by rw [cdsA_len, List.length_set]
  refine AQ.g ?_
  refine G.closeRow (b := b') 0 rfl hxs2 rfl hc1 hc2 ?_
  refine AQ.u ?_
  refine AQ.g ?_
  dsimp only [List.set]
  refine AQ.u ?_
  refine AQ.g ?_
  (refine G.freezeRow 0 rfl [8] (by (repeat (first | exact frNil | refine frCons rfl ?_)); done) ?_)
  refine AQ.u ?_
  try dsimp only [List.map, List.eraseIdx, List.cons_append, List.nil_append]
  refine AQ.ret2 rfl rfl rfl ⟨_, List.nil_sublist _, .nil⟩ (⟨rfl, rfl⟩)
/-! ### Insert -/
abbrev newC (k v : UInt8) (a now : Int) : Cd := ⟨k, v, a, now, a⟩
set_option maxHeartbeats 8000000 in
theorem insert1_fn (l : List Cd) (k v : UInt8) (q : Nat) (a now : Int) (h : COk l) (hp : posC l k = (q : Int)) (hq : q < l.length) (ha : 1 ≤ a ∧ a ≤ 30) (hn : 0 ≤ now ∧ now ≤ 1000000) : Sp Tryz.prog 35 [roCd l, roB (keyC k), aggM (rsC v a), .val (.int .i64 now)] [] (Is (.tup [roCd (l.set q (newC k v a now)), .val (.int .i64 0)])) := by
 have hl3 := h.len
 have hll : (l.set q (newC k v a now)).length = l.length := List.length_set
 have e3 : roCd (l.set q (newC k v a now)) = .ro false l.length (cdsA (l.set q (newC k v a now))) := by unfold roCd; rw [hll]
 rw [e3]
 have hcf : Sp Tryz.prog 71 [roCd l, roB (keyC k)] [] (Is (.val (.int .i64 (q : Int)))) := by
  have h2 := cfind_fn l k (by omega)
  rw [hp] at h2; exact h2
 refine Sp.enter Tryz.func35 rfl _ Tryz.ntmps35 rfl (fun w0 R0 => ?_)
 refine AW.seq ?_
 refine AW.region ?_
 refine AO.opB (O.box rfl rfl rfl rfl rfl) rfl rfl rfl ?_
 intro B1
 refine AO.op (O.assign rfl rfl) rfl rfl rfl ?_
 refine AO.op (O.assign rfl rfl) rfl rfl rfl ?_
 refine AO.nil ?_
 refine AQ.thenN ?_
 refine AW.seq ?_
 refine AW.seq ?_
 refine AW.region ?_
 refine AO.op (O.move rfl rfl) rfl rfl rfl ?_
 refine AO.op (O.move rfl rfl) rfl rfl rfl ?_
 refine AO.op (O.move rfl rfl) rfl rfl rfl ?_
 refine AO.op (O.call rfl Tryz.func72 rfl rfl rfl (argument_fn l k now h hn)) rfl rfl rfl ?_
 refine AO.op (O.assign rfl rfl) rfl rfl rfl ?_
 refine AO.nil ?_
 refine AQ.thenN ?_
 refine AW.seq ?_
 refine AW.region ?_
 refine AO.op (O.move rfl rfl) rfl rfl rfl ?_
 refine AO.op (O.neq rfl rfl rfl (by exact bne_eq_false_iff_eq.2 (by omega))) rfl rfl rfl ?_
 refine AO.nil ?_
 refine AQ.thenN ?_
 refine AW.condF rfl ?_
 refine AW.skip ?_
 refine AQ.thenN ?_
 refine AW.seq ?_
 refine AW.seq ?_
 refine AW.region ?_
 (refine AO.op (O.loadK rfl rfl (by repeat (exact List.Mem.head _)) (by (dsimp only [List.set, List.cons_append, List.nil_append, List.take, List.drop]; done)) (by rfl)) rfl rfl rfl ?_)
 refine AO.op (O.call rfl Tryz.func75 rfl rfl rfl (storable_fn v a ha)) rfl rfl rfl ?_
 refine AO.op (O.not rfl rfl (by rfl)) rfl rfl rfl ?_
 refine AO.nil ?_
 refine AQ.thenN ?_
 refine AW.condF rfl ?_
 refine AW.skip ?_
 refine AQ.thenN ?_
 refine AW.seq ?_
 refine AW.region ?_
 (refine AO.op (O.loadK rfl rfl (by repeat (exact List.Mem.head _)) (by (dsimp only [List.set, List.cons_append, List.nil_append, List.take, List.drop]; done)) (by rfl)) rfl rfl rfl ?_)
 refine AO.op (O.call rfl Tryz.func74 rfl rfl rfl (maxage_fn 69 v a [v] ⟨by omega, by omega⟩)) rfl rfl rfl ?_
 refine AO.op (O.assign rfl rfl) rfl rfl rfl ?_
 refine AO.nil ?_
 refine AQ.thenN ?_
 refine AW.seq ?_
 refine AW.region ?_
 refine AO.op (O.fieldAddr rfl rfl) rfl rfl rfl ?_
 (refine AO.store (i := 0) rfl rfl rfl rfl rfl rfl (by rfl) (by rfl) (by rfl) (by rfl) (by (dsimp only [List.set, List.cons_append, List.nil_append, List.take, List.drop]; done)) ?_)
 refine AO.op (O.fieldAddr rfl rfl) rfl rfl rfl ?_
 (refine AO.store (i := 0) rfl rfl rfl rfl rfl rfl (by rfl) (by rfl) (by rfl) (by rfl) (by (dsimp only [List.set, List.cons_append, List.nil_append, List.take, List.drop]; done)) ?_)
 refine AO.op (O.fieldAddr rfl rfl) rfl rfl rfl ?_
 (refine AO.store (i := 0) rfl rfl rfl rfl rfl rfl (by rfl) (by rfl) (by rfl) (by rfl) (by (dsimp only [List.set, List.cons_append, List.nil_append, List.take, List.drop]; done)) ?_)
 refine AO.nil ?_
 refine AQ.thenN ?_
 refine AW.seq ?_
 refine AW.region ?_
 refine AO.op (O.move rfl rfl) rfl rfl rfl ?_
 (refine AO.op (O.loadK rfl rfl (by repeat (exact List.Mem.head _)) (by (dsimp only [List.set, List.cons_append, List.nil_append, List.take, List.drop]; done)) (by rfl)) rfl rfl rfl ?_)
 refine AO.op (O.move rfl rfl) rfl rfl rfl ?_
 refine AO.op (O.move rfl rfl) rfl rfl rfl ?_
 refine AO.op (O.build rfl rfl rfl (by rfl)) rfl rfl rfl ?_
 (refine AO.op (O.callC rfl Tryz.func70 rfl rfl rfl (element_fn (newC k v a now)) (by (repeat (first | exact CoeL.nil | refine CoeL.cons Coe.rfl ?_ | refine CoeL.cons Coe.nil ?_ | refine CoeL.cons (Coe.agg ?_) ?_)); done)) rfl rfl rfl ?_)
 refine AO.opB (O.alloc rfl (by (dsimp only [zerosA, List.replicate, List.append, List.flatten, AV.cells, Value.cells, List.toList_toArray, List.map]; done)) (by rfl)) rfl rfl rfl ?_
 intro B2
 (refine AO.store (i := 0) rfl rfl rfl rfl rfl rfl (by rfl) (by rfl) (by rfl) (by exact splice_full rfl) (by (dsimp only [List.set, List.cons_append, List.nil_append, List.take, List.drop]; done)) ?_)
 refine AO.nil ?_
 refine AQ.thenN ?_
 refine AW.seq ?_
 refine AW.region ?_
 refine AO.op (O.move rfl rfl) rfl rfl rfl ?_
 refine AO.opRow (O.call rfl Tryz.func73 rfl rfl rfl (call_fn l (by omega))) rfl rfl rfl ?_
 intro V3 hV3
 refine AO.op (O.assign rfl rfl) rfl rfl rfl ?_
 refine AO.nil ?_
 refine AQ.thenN ?_
 refine AW.seq ?_
 refine AW.seq ?_
 refine AW.region ?_
 refine AO.op (O.move rfl rfl) rfl rfl rfl ?_
 refine AO.op (O.move rfl rfl) rfl rfl rfl ?_
 (refine AO.op (O.callL rfl Tryz.func71 rfl rfl rfl (by repeat (exact List.Mem.head _)) (hcf) (by (repeat (first | exact LendL.nil | refine LendL.same ?_ | refine LendL.lend ?_)); done)) rfl rfl rfl ?_)
 refine AO.op (O.assign rfl rfl) rfl rfl rfl ?_
 refine AO.nil ?_
 refine AQ.thenN ?_
 refine AW.seq ?_
 refine AW.region ?_
 refine AO.op (O.move rfl rfl) rfl rfl rfl ?_
 refine AO.op (O.geq rfl rfl rfl (by exact bTrue (by omega))) rfl rfl rfl ?_
 refine AO.nil ?_
 refine AQ.thenN ?_
 refine AW.condT rfl ?_
 have s1 : ∀ j, j = q * 9 → splice (cdsA l) j (cD (newC k v a now)) = cdsA (l.set q (newC k v a now)) := fun j hj => splice_cd hq (c := 0) (ys := cD (newC k v a now)) (a := newC k v a now) (Nat.le_refl _) (splice_full rfl) hj
 refine AW.g ?_
 refine G.openRow 0 rfl (by omega) (fun b' cap hc1 hc2 hxs hVe => ?_)
 refine AW.u ?_
 subst hVe
 refine AW.g ?_
 dsimp only [List.set]
 refine AW.u ?_
 refine AW.seq ?_
 refine AW.region ?_
 refine AO.op (O.move rfl rfl) rfl rfl rfl ?_
 refine AO.op (O.move rfl rfl) rfl rfl rfl ?_
 refine AO.op (O.loadK rfl rfl (by repeat (first | exact List.Mem.head _ | refine List.Mem.tail _ ?_)) (by exact List.take_of_length_le (Nat.le_of_eq rfl)) (by rfl)) rfl rfl rfl ?_
 refine AO.op (O.idxV rfl rfl rfl ⟨(by omega), (by omega)⟩) rfl rfl rfl ?_
 (refine AO.store (i := 0) rfl rfl rfl rfl rfl rfl (by rfl) (by rfl) (by exact Nat.ble_eq_true_of_le (Nat.le_trans (show _ ≤ l.length * 9 by omega) (Nat.le_of_eq (cdsA_len l).symm))) (by exact s1 _ (by omega)) (by (dsimp only [List.set, List.cons_append, List.nil_append, List.take, List.drop]; done)) ?_)
 refine AO.nil ?_
 refine AQ.thenN ?_
 refine AW.seq ?_
 refine AW.region ?_
 refine AO.op (O.move rfl rfl) rfl rfl rfl ?_
 refine AO.op (O.assign rfl rfl) rfl rfl rfl ?_
 refine AO.op (O.assign rfl rfl) rfl rfl rfl ?_
 refine AO.nil ?_
 refine AQ.thenN ?_
 refine AW.ret ?_
 refine AQ.thenR ?_
 have hxs2 : (cdsA (l.set q (newC k v a now))).length = l.length * 9 := by rw [cdsA_len, List.length_set]
 refine AQ.g ?_
 refine G.closeRow (b := b') 0 rfl hxs2 rfl hc1 hc2 ?_
 refine AQ.u ?_
 refine AQ.g ?_
 dsimp only [List.set]
 refine AQ.u ?_
 refine AQ.g ?_
 (refine G.freezeRow 0 rfl [8] (by (repeat (first | exact frNil | refine frCons rfl ?_)); done) ?_)
 refine AQ.u ?_
 try dsimp only [List.map, List.eraseIdx, List.cons_append, List.nil_append]
 refine AQ.ret2 rfl rfl rfl ⟨_, List.nil_sublist _, .nil⟩ (⟨rfl, rfl⟩)
set_option maxHeartbeats 8000000 in
theorem insert0_fn (l : List Cd) (k v : UInt8) (a now : Int) (h : COk l) (hp : posC l k = -1) (ha : 1 ≤ a ∧ a ≤ 30) (hn : 0 ≤ now ∧ now ≤ 1000000) : Sp Tryz.prog 35 [roCd l, roB (keyC k), aggM (rsC v a), .val (.int .i64 now)] [] (Is (.tup [roCd (l ++ [newC k v a now]), .val (.int .i64 0)])) := by
 have hl3 := h.len
 have hll : (l ++ [newC k v a now]).length = l.length + 1 := by simp
 have e3 : roCd (l ++ [newC k v a now]) = .ro false (l.length + 1) (cdsA l ++ cD (newC k v a now)) := by unfold roCd; rw [hll, cdsA_snoc]
 rw [e3]
 have hcf : Sp Tryz.prog 71 [roCd l, roB (keyC k)] [] (Is (.val (.int .i64 (-1)))) := by
  have h2 := cfind_fn l k (by omega)
  rw [hp] at h2; exact h2
 refine Sp.enter Tryz.func35 rfl _ Tryz.ntmps35 rfl (fun w0 R0 => ?_)
 refine AW.seq ?_
 refine AW.region ?_
 refine AO.opB (O.box rfl rfl rfl rfl rfl) rfl rfl rfl ?_
 intro B1
 refine AO.op (O.assign rfl rfl) rfl rfl rfl ?_
 refine AO.op (O.assign rfl rfl) rfl rfl rfl ?_
 refine AO.nil ?_
 refine AQ.thenN ?_
 refine AW.seq ?_
 refine AW.seq ?_
 refine AW.region ?_
 refine AO.op (O.move rfl rfl) rfl rfl rfl ?_
 refine AO.op (O.move rfl rfl) rfl rfl rfl ?_
 refine AO.op (O.move rfl rfl) rfl rfl rfl ?_
 refine AO.op (O.call rfl Tryz.func72 rfl rfl rfl (argument_fn l k now h hn)) rfl rfl rfl ?_
 refine AO.op (O.assign rfl rfl) rfl rfl rfl ?_
 refine AO.nil ?_
 refine AQ.thenN ?_
 refine AW.seq ?_
 refine AW.region ?_
 refine AO.op (O.move rfl rfl) rfl rfl rfl ?_
 refine AO.op (O.neq rfl rfl rfl (by exact bne_eq_false_iff_eq.2 (by omega))) rfl rfl rfl ?_
 refine AO.nil ?_
 refine AQ.thenN ?_
 refine AW.condF rfl ?_
 refine AW.skip ?_
 refine AQ.thenN ?_
 refine AW.seq ?_
 refine AW.seq ?_
 refine AW.region ?_
 (refine AO.op (O.loadK rfl rfl (by repeat (exact List.Mem.head _)) (by (dsimp only [List.set, List.cons_append, List.nil_append, List.take, List.drop]; done)) (by rfl)) rfl rfl rfl ?_)
 refine AO.op (O.call rfl Tryz.func75 rfl rfl rfl (storable_fn v a ha)) rfl rfl rfl ?_
 refine AO.op (O.not rfl rfl (by rfl)) rfl rfl rfl ?_
 refine AO.nil ?_
 refine AQ.thenN ?_
 refine AW.condF rfl ?_
 refine AW.skip ?_
 refine AQ.thenN ?_
 refine AW.seq ?_
 refine AW.region ?_
 (refine AO.op (O.loadK rfl rfl (by repeat (exact List.Mem.head _)) (by (dsimp only [List.set, List.cons_append, List.nil_append, List.take, List.drop]; done)) (by rfl)) rfl rfl rfl ?_)
 refine AO.op (O.call rfl Tryz.func74 rfl rfl rfl (maxage_fn 69 v a [v] ⟨by omega, by omega⟩)) rfl rfl rfl ?_
 refine AO.op (O.assign rfl rfl) rfl rfl rfl ?_
 refine AO.nil ?_
 refine AQ.thenN ?_
 refine AW.seq ?_
 refine AW.region ?_
 refine AO.op (O.fieldAddr rfl rfl) rfl rfl rfl ?_
 (refine AO.store (i := 0) rfl rfl rfl rfl rfl rfl (by rfl) (by rfl) (by rfl) (by rfl) (by (dsimp only [List.set, List.cons_append, List.nil_append, List.take, List.drop]; done)) ?_)
 refine AO.op (O.fieldAddr rfl rfl) rfl rfl rfl ?_
 (refine AO.store (i := 0) rfl rfl rfl rfl rfl rfl (by rfl) (by rfl) (by rfl) (by rfl) (by (dsimp only [List.set, List.cons_append, List.nil_append, List.take, List.drop]; done)) ?_)
 refine AO.op (O.fieldAddr rfl rfl) rfl rfl rfl ?_
 (refine AO.store (i := 0) rfl rfl rfl rfl rfl rfl (by rfl) (by rfl) (by rfl) (by rfl) (by (dsimp only [List.set, List.cons_append, List.nil_append, List.take, List.drop]; done)) ?_)
 refine AO.nil ?_
 refine AQ.thenN ?_
 refine AW.seq ?_
 refine AW.region ?_
 refine AO.op (O.move rfl rfl) rfl rfl rfl ?_
 (refine AO.op (O.loadK rfl rfl (by repeat (exact List.Mem.head _)) (by (dsimp only [List.set, List.cons_append, List.nil_append, List.take, List.drop]; done)) (by rfl)) rfl rfl rfl ?_)
 refine AO.op (O.move rfl rfl) rfl rfl rfl ?_
 refine AO.op (O.move rfl rfl) rfl rfl rfl ?_
 refine AO.op (O.build rfl rfl rfl (by rfl)) rfl rfl rfl ?_
 (refine AO.op (O.callC rfl Tryz.func70 rfl rfl rfl (element_fn (newC k v a now)) (by (repeat (first | exact CoeL.nil | refine CoeL.cons Coe.rfl ?_ | refine CoeL.cons Coe.nil ?_ | refine CoeL.cons (Coe.agg ?_) ?_)); done)) rfl rfl rfl ?_)
 refine AO.opB (O.alloc rfl (by (dsimp only [zerosA, List.replicate, List.append, List.flatten, AV.cells, Value.cells, List.toList_toArray, List.map]; done)) (by rfl)) rfl rfl rfl ?_
 intro B2
 (refine AO.store (i := 0) rfl rfl rfl rfl rfl rfl (by rfl) (by rfl) (by rfl) (by exact splice_full rfl) (by (dsimp only [List.set, List.cons_append, List.nil_append, List.take, List.drop]; done)) ?_)
 refine AO.nil ?_
 refine AQ.thenN ?_
 refine AW.seq ?_
 refine AW.region ?_
 refine AO.op (O.move rfl rfl) rfl rfl rfl ?_
 refine AO.opRow (O.call rfl Tryz.func73 rfl rfl rfl (call_fn l (by omega))) rfl rfl rfl ?_
 intro V3 hV3
 refine AO.op (O.assign rfl rfl) rfl rfl rfl ?_
 refine AO.nil ?_
 refine AQ.thenN ?_
 refine AW.seq ?_
 refine AW.seq ?_
 refine AW.region ?_
 refine AO.op (O.move rfl rfl) rfl rfl rfl ?_
 refine AO.op (O.move rfl rfl) rfl rfl rfl ?_
 (refine AO.op (O.callL rfl Tryz.func71 rfl rfl rfl (by repeat (exact List.Mem.head _)) (hcf) (by (repeat (first | exact LendL.nil | refine LendL.same ?_ | refine LendL.lend ?_)); done)) rfl rfl rfl ?_)
 refine AO.op (O.assign rfl rfl) rfl rfl rfl ?_
 refine AO.nil ?_
 refine AQ.thenN ?_
 refine AW.seq ?_
 refine AW.region ?_
 refine AO.op (O.move rfl rfl) rfl rfl rfl ?_
 refine AO.op (O.geq rfl rfl rfl (by exact bFalse (by omega))) rfl rfl rfl ?_
 refine AO.nil ?_
 refine AQ.thenN ?_
 refine AW.condF rfl ?_
 refine AW.skip ?_
 refine AQ.thenN ?_
 refine AW.seq ?_
 refine AW.seq ?_
 refine AW.region ?_
 refine AO.op (O.move rfl rfl) rfl rfl rfl ?_
 refine AO.op (O.lenRow rfl rfl (by repeat (exact List.Mem.head _))) rfl rfl rfl ?_
 refine AO.op (O.geq rfl rfl rfl (by exact bFalse (by omega))) rfl rfl rfl ?_
 refine AO.nil ?_
 refine AQ.thenN ?_
 refine AW.condF rfl ?_
 refine AW.skip ?_
 refine AQ.thenN ?_
 refine AW.seq ?_
 refine AW.region ?_
 refine AO.op (O.move rfl rfl) rfl rfl rfl ?_
 refine AO.op (O.loadK rfl rfl (by repeat (first | exact List.Mem.head _ | refine List.Mem.tail _ ?_)) (by exact List.take_of_length_le (Nat.le_of_eq rfl)) (by rfl)) rfl rfl rfl ?_
 refine AO.opB (O.buildSlice rfl rfl rfl (by rfl) (by rfl) (by rfl) (by rfl)) rfl rfl rfl ?_
 intro B4
 refine AO.g ?_
 (refine G.freezeSl 0 64 rfl rfl ⟨Nat.le_refl _, by unfold maxLen; omega⟩ ?_)
 refine G.unfull 64 rfl ?_
 refine AO.u ?_
 dsimp only [List.eraseIdx]
 (refine AO.append' (i := 0) rfl rfl rfl rfl (by rfl) (by rfl) rfl rfl rfl (by exact SrcA.ro TyD.ax (by rfl) (Nat.le_of_ble_eq_true rfl)) (by rfl) (by (unfold maxLen; omega)) (by omega) (by (dsimp only [List.set, List.cons_append, List.nil_append, List.take, List.drop]; done)) (fun _ => by (dsimp only [List.set]; done)) ?_)
 intro V5 hV5
 refine AO.op (O.assign rfl rfl) rfl rfl rfl ?_
 refine AO.op (O.assign rfl rfl) rfl rfl rfl ?_
 refine AO.nil ?_
 refine AQ.thenN ?_
 refine AW.ret ?_
 trace_state
 refine AQ.g ?_
 (refine G.freezeRow 0 rfl [8] (by (repeat (first | exact frNil | refine frCons rfl ?_)); done) ?_)
 refine AQ.u ?_
 try dsimp only [List.map, List.eraseIdx, List.cons_append, List.nil_append]
 refine AQ.ret2 rfl rfl rfl ⟨_, List.nil_sublist _, .nil⟩ (⟨rfl, rfl⟩)
end Go.Proofs.YtoonnnifelnaiaaGreatDoor.By

namespace Go.Proofs.YtoonnnifelnaiaaGreatDoor.By
open Go.RowKit L A Dk
set_option linter.unusedVariables false
set_option maxRecDepth 20000
set_option linter.unusedSimpArgs false
def chP (k : Nat) : UInt8 := if k = 0 then 97 else if k = 1 then 98 else 99
theorem chP_inj {i j : Nat} (hi : i < 3) (hj : j < 3) (h : chP i = chP j) : i = j := by
 have key : ∀ i, i < 3 → ∀ j, j < 3 → chP i = chP j → i = j := by decide
 exact key i hi j hj h
def updP {α : Type} (f : Nat → α) (k : Nat) (a : α) : Nat → α := fun i => if i = k then a else f i
theorem updP_eq {α : Type} (f : Nat → α) (k : Nat) (a : α) : updP f k a k = a := if_pos rfl
theorem updP_ne {α : Type} (f : Nat → α) {k i : Nat} (a : α) (h : i ≠ k) : updP f k a i = f i := if_neg h
/-- What is stored was so, and the origin changed it no sooner than it was stored. -/
def OkC (s : Nat → Int) (L : Nat → List Int) (e : Cd) : Prop := ∀ k, k < 3 → e.k = chP k → (e.v.toNat : Int) ≤ s k ∧ ((e.v.toNat : Int) < s k → e.at_ ≤ (L k).getD (e.v.toNat + 1) 0)
def GoodC (s : Nat → Int) (L : Nat → List Int) (now : Int) (c : List Cd) : Prop := ∀ e ∈ c, e.at_ ≤ now ∧ OkC s L e
theorem GoodC.later {s : Nat → Int} {L : Nat → List Int} {now now2 : Int} {c : List Cd} (h : GoodC s L now c) (hn : now ≤ now2) : GoodC s L now2 c := fun e he => ⟨Int.le_trans (h e he).1 hn, (h e he).2⟩
theorem GoodC.sub {s : Nat → Int} {L : Nat → List Int} {now : Int} {c d : List Cd} (h : GoodC s L now c) (hd : ∀ e ∈ d, e ∈ c) : GoodC s L now d := fun e he => h e (hd e he)
theorem GoodC.up {s : Nat → Int} {L : Nat → List Int} {now : Int} {c : List Cd} (h : GoodC s L now c) {k0 : Nat} (hs : 0 ≤ s k0) (hl : ((L k0).length : Int) = s k0 + 1) : GoodC (updP s k0 (s k0 + 1)) (updP L k0 (L k0 ++ [now])) now c := fun e he => by
 obtain ⟨h1, h2⟩ := h e he
 refine ⟨h1, fun k hk hek => ?_⟩
 obtain ⟨h3, h4⟩ := h2 k hk hek
 by_cases hkk : k = k0
 ·subst hkk
  rw [updP_eq, updP_eq]
  refine ⟨by omega, fun _ => ?_⟩
  by_cases hv : (e.v.toNat : Int) < s k
  ·have h5 := h4 hv
   have : (L k ++ [now]).getD (e.v.toNat + 1) 0 = (L k).getD (e.v.toNat + 1) 0 := by
    simp only [List.getD_eq_getElem?_getD]
    rw [List.getElem?_append_left (by omega)]
   rw [this]; exact h5
  ·have hlen : e.v.toNat + 1 = (L k).length := by omega
   have : (L k ++ [now]).getD (e.v.toNat + 1) 0 = now := by
    simp only [List.getD_eq_getElem?_getD]
    rw [hlen, List.getElem?_append_right (Nat.le_refl _)]; simp
   rw [this]; exact h1
 ·rw [updP_ne _ _ hkk, updP_ne _ _ hkk]
  exact ⟨h3, h4⟩
theorem GoodC.set {s : Nat → Int} {L : Nat → List Int} {now : Int} {c : List Cd} (h : GoodC s L now c) (q : Nat) {e : Cd} (he1 : e.at_ ≤ now) (he2 : OkC s L e) : GoodC s L now (c.set q e) := fun x hx => by
 rcases List.mem_or_eq_of_mem_set hx with hx | rfl
 ·exact h x hx
 ·exact ⟨he1, he2⟩
theorem GoodC.add {s : Nat → Int} {L : Nat → List Int} {now : Int} {c : List Cd} (h : GoodC s L now c) {e : Cd} (he1 : e.at_ ≤ now) (he2 : OkC s L e) : GoodC s L now (c ++ [e]) := fun x hx => by
 rcases List.mem_append.1 hx with hx | hx
 ·exact h x hx
 ·obtain rfl := List.mem_singleton.1 hx; exact ⟨he1, he2⟩
/-- What is new is the state. -/
theorem okC_new {s : Nat → Int} {L : Nat → List Int} {e : Cd} {k0 : Nat} (hk0 : k0 < 3) (h1 : e.k = chP k0) (h2 : (e.v.toNat : Int) = s k0) : OkC s L e := fun k hk hek => by
 obtain rfl : k = k0 := chP_inj hk hk0 (hek.symm.trans h1)
 exact ⟨by omega, fun h => by omega⟩
theorem COk.rem {c : List Cd} (h : COk c) (k : UInt8) : COk (remC c k) := ⟨h.1.sublist (List.Sublist.map _ List.filter_sublist), fun e he => h.2 e (List.mem_filter.1 he).1⟩
theorem map_set_key {c : List Cd} {q : Nat} {e : Cd} (hq : q < c.length) (he : e.k = (cd c q).k) : (c.set q e).map Cd.k = c.map Cd.k := by
 apply List.ext_getElem
 ·simp
 ·intro i h1 h2
  rw [List.getElem_map, List.getElem_map, List.getElem_set]
  split
  ·rename_i h; subst h; rw [he]; simp [hq]
  ·rfl
theorem COk.set {c : List Cd} (h : COk c) {q : Nat} {e : Cd} (hq : q < c.length) (he : e.k = (cd c q).k) (hok : CdOk e) : COk (c.set q e) := ⟨by rw [map_set_key hq he]; exact h.1, fun x hx => by
 rcases List.mem_or_eq_of_mem_set hx with hx | rfl
 ·exact h.2 x hx
 ·exact hok⟩
theorem COk.add {c : List Cd} (h : COk c) {e : Cd} (hn : ∀ x ∈ c, x.k ≠ e.k) (hok : CdOk e) : COk (c ++ [e]) := ⟨by
 rw [List.map_append, List.nodup_append]
 refine ⟨h.1, by simp, fun a ha b hb => ?_⟩
 obtain ⟨x, hx, rfl⟩ := List.mem_map.1 ha
 obtain rfl : b = e.k := by simpa using hb
 exact hn x hx, fun x hx => by
 rcases List.mem_append.1 hx with hx | hx
 ·exact h.2 x hx
 ·obtain rfl := List.mem_singleton.1 hx; exact hok⟩
theorem posC_at {c : List Cd} (h : COk c) {q : Nat} (hq : q < c.length) {k : UInt8} (hk : (cd c q).k = k) : posC c k = (q : Int) := by
 rcases posC_cases c k with ⟨_, h2⟩ | ⟨q', h1, h2, h3⟩
 ·exact absurd hk (h2 _ (getD_mem Cd.none hq))
 ·rw [h2]
  have e2 : (c.map Cd.k)[q']'(by rw [List.length_map]; exact h1) = (c.map Cd.k)[q]'(by rw [List.length_map]; exact hq) := by
   rw [List.getElem_map, List.getElem_map]
   have a1 : cd c q' = c[q'] := by simp [h1]
   have a2 : cd c q = c[q] := by simp [hq]
   rw [← a1, ← a2, h3, hk]
  have := (List.getElem_inj h.1).1 e2
  rw [this]
theorem cd_set {c : List Cd} {q : Nat} (hq : q < c.length) (e : Cd) : cd (c.set q e) q = e := by simp [hq]
theorem cd_add (c : List Cd) (e : Cd) : cd (c ++ [e]) c.length = e := by simp
/-- What is fresh is young enough. -/
theorem fresh_law {s : Nat → Int} {L : Nat → List Int} {e : Cd} {k : Nat} {now : Int} (hok : OkC s L e) (hk : k < 3) (hek : e.k = chP k) (hl : Live e now) (ha : e.age ≤ 30) : (e.v.toNat : Int) ≤ s k ∧ ((e.v.toNat : Int) < s k → now - 30 < (L k).getD (e.v.toNat + 1) 0) := by
 obtain ⟨h1, h2⟩ := hok k hk hek
 obtain ⟨h3, h4⟩ := hl
 exact ⟨h1, fun h => by have := h2 h; omega⟩
end Go.Proofs.YtoonnnifelnaiaaGreatDoor.By

namespace Go.Proofs.YtoonnnifelnaiaaGreatDoor.A
open Go.RowKit L
set_option linter.unusedVariables false
set_option maxRecDepth 20000
set_option linter.unusedSimpArgs false

section
variable {P : Program} {ops : Array Oper} {N : Nat}
def alAt (als : List Al) (i : Nat) : Option Al := als.find? fun al => Nat.beq al.i i
def isAl (als : List Al) (i : Nat) : Bool := (alAt als i).isSome
theorem alAt_mem {als : List Al} (hn : (als.map Al.i).Nodup) {al : Al} (h : al ∈ als) : alAt als al.i = some al := by
 induction als with
 | nil => cases h
 | cons a r ih =>
  rw [List.map_cons, List.nodup_cons] at hn
  unfold alAt
  rw [List.find?_cons]
  rcases List.mem_cons.1 h with rfl | h
  ·simp
  ·have hne : Nat.beq a.i al.i = false := by
    cases hb : Nat.beq a.i al.i with
    | false => rfl
    | true => exact absurd (List.mem_map.2 ⟨al, h, (Nat.eq_of_beq_eq_true hb).symm⟩) hn.1
   rw [hne]; exact ih hn.2 h
def upd (ea : Nat → Option Nat) (i : Nat) (v : Option Nat) : Nat → Option Nat := fun k => if k = i then v else ea k
theorem upd_same (ea : Nat → Option Nat) (i : Nat) (v : Option Nat) : upd ea i v i = v := if_pos rfl
theorem upd_other (ea : Nat → Option Nat) {i k : Nat} (v : Option Nat) (h : k ≠ i) : upd ea i v k = ea k := if_neg h
def early (als : List Al) (ea : Nat → Option Nat) : List HE := als.flatMap fun al => al.hs (ea al.i)
theorem early_congr {als : List Al} {ea ea' : Nat → Option Nat} (h : ∀ al ∈ als, ea al.i = ea' al.i) : early als ea = early als ea' := by
 induction als with
 | nil => rfl
 | cons a r ih =>
  unfold early at ih ⊢
  rw [List.flatMap_cons, List.flatMap_cons, h a (List.mem_cons_self ..), ih fun al hal => h al (List.mem_cons_of_mem _ hal)]
theorem early_set {als : List Al} (hn : (als.map Al.i).Nodup) {al : Al} (hm : al ∈ als) {ea : Nat → Option Nat} (b : Nat) (h : ea al.i = none) : (early als (upd ea al.i (some b))).Perm (al.he b :: early als ea) := by
 induction als with
 | nil => cases hm
 | cons a r ih =>
  rw [List.map_cons, List.nodup_cons] at hn
  rcases List.mem_cons.1 hm with rfl | hm
  ·have e : early r (upd ea al.i (some b)) = early r ea := early_congr fun x hx => upd_other _ _ fun e => hn.1 (List.mem_map.2 ⟨x, hx, e⟩)
   show (al.hs (upd ea al.i (some b) al.i) ++ early r (upd ea al.i (some b))).Perm (al.he b :: (al.hs (ea al.i) ++ early r ea))
   rw [upd_same, h, e]; exact .refl _
  ·have hne : a.i ≠ al.i := fun e => hn.1 (List.mem_map.2 ⟨al, hm, e.symm⟩)
   show (a.hs (upd ea al.i (some b) a.i) ++ early r (upd ea al.i (some b))).Perm (al.he b :: (a.hs (ea a.i) ++ early r ea))
   rw [upd_other _ _ hne]
   exact ((ih hn.2 hm).append_left _).trans List.perm_middle
theorem early_clear {als : List Al} (hn : (als.map Al.i).Nodup) {al : Al} (hm : al ∈ als) {ea : Nat → Option Nat} {b : Nat} (h : ea al.i = some b) : (early als ea).Perm (al.he b :: early als (upd ea al.i none)) := by
 have e : ea = upd (upd ea al.i none) al.i (some b) := by
  funext k
  by_cases hk : k = al.i
  ·subst hk; rw [upd_same]; exact h
  ·rw [upd_other _ _ hk, upd_other _ _ hk]
 have := early_set hn hm (ea := upd ea al.i none) b (upd_same _ _ _)
 rwa [← e] at this
def AB (P : Program) (N : Nat) (ops : Array Oper) (als : List Al) (Hs : List HE) (K : Env → List HE → Prop) : List (Nat × Bool) → Env → List HE → Prop
 | [], E, H => K E H
 | (i, true) :: r, E, H => match alAt als i with
  | some al => ∀ b, AB P N ops als Hs K r ((al.d, .val (.pointer (some ⟨b, 0, none⟩))) :: E) (al.he b :: H)
  | none => ∃ o, ops[i]? = some o ∧ ∀ w0 R0, AO ⟨w0, footOf H, R0, N⟩ P ops (QS ⟨w0, footOf H, R0, N⟩ o.dst (fun v H' => AB P N ops als Hs K r (putE o.dst v E) H')) [o] (rst E (o.looksAt ops)) H
 | (i, false) :: r, E, H => ∃ o d v, ops[i]? = some o ∧ o.dst = some d ∧ d < N ∧ OpF P N ops o (rst E (o.looksAt ops)) Hs (Is v) ∧ AB P N ops als Hs K r ((d, v) :: E) H

/-- One operation ahead of another. -/
def ordPairB (ops : Array Oper) (ia : Nat → Bool) (an : List (List Nat)) (i : Nat) (b : Bool) (j : Nat) (c : Bool) : Bool :=
 match ops[i]?, ops[j]? with
 | some oi, some oj =>
  let waits := oj.after.any fun e => Region.binds .any e && e.on == i
  let anc := (an.getD j []).contains i
  (i != j) && (!b || anc || ia j) &&
  (match oj.dst with
   | some d => bif c && !ia j then (!((oi.looksAt ops).contains d || oi.dst == some d)) || anc else !(oi.looksAt ops).contains d && oi.dst != some d
   | none => c && !ia j) &&
  (match oi.dst with
   | some d => !(oj.looksAt ops).contains d || waits
   | none => true)
 | _, _ => false
def ordPairsB (ops : Array Oper) (ia : Nat → Bool) (an : List (List Nat)) : List (Nat × Bool) → Bool
 | [] => true
 | (i, b) :: r => (b || (match ops[i]? with | some o => (match o.dst with | some d => !(o.looksAt ops).contains d | none => false) | none => false)) && r.all (fun q => ordPairB ops ia an i b q.1 q.2) && ordPairsB ops ia an r
def ordOkB (ops : Array Oper) (ia : Nat → Bool) (ord : List (Nat × Bool)) : Bool :=
 ((List.range ops.size).all fun i => (ord.map Prod.fst).contains i) && (ord.all fun q => decide (q.1 < ops.size)) &&
 ((List.range ops.size).all fun i => (ops[i]?).all fun o => o.after.all fun e => !Region.binds .any e || decide (e.on < i)) && (ord.all fun q => !ia q.1 || q.2) && ordPairsB ops ia (ancs ops.toList []) ord

theorem ordPairsB_app {ia : Nat → Bool} {an : List (List Nat)} : ∀ {pre r : List (Nat × Bool)}, ordPairsB ops ia an (pre ++ r) = true → ordPairsB ops ia an r = true ∧ ∀ q ∈ pre, ∀ s ∈ r, ordPairB ops ia an q.1 q.2 s.1 s.2 = true
 | [], r, h => ⟨h, fun q hq => by cases hq⟩
 | (i, b) :: pre, r, h => by
  rw [List.cons_append, ordPairsB] at h
  simp only [Bool.and_eq_true, List.all_eq_true] at h
  obtain ⟨h1, h2⟩ := ordPairsB_app h.2
  refine ⟨h1, fun q hq s hs => ?_⟩
  rcases List.mem_cons.1 hq with rfl | hq
  ·exact h.1.2 s (List.mem_append_right _ hs)
  ·exact h2 q hq s hs

structure PairOkB (ops : Array Oper) (ia : Nat → Bool) (an : List (List Nat)) (i : Nat) (b : Bool) (oi : Oper) (j : Nat) (c : Bool) (oj : Oper) : Prop where
 ne : i ≠ j
 main : b = true → ia j = false → i ∈ an.getD j []
 flt : c = false ∨ ia j = true → ∃ d, oj.dst = some d ∧ d ∉ oi.looksAt ops ∧ oi.dst ≠ some d
 mn : c = true → ia j = false → ∀ d, oj.dst = some d → (d ∈ oi.looksAt ops ∨ oi.dst = some d) → i ∈ an.getD j []
 reads : ∀ d, oi.dst = some d → d ∈ oj.looksAt ops → ∃ e ∈ oj.after, Region.binds .any e = true ∧ e.on = i
theorem pairOkB {ia : Nat → Bool} {an : List (List Nat)} {i j : Nat} {b c : Bool} {oi oj : Oper} (h : ordPairB ops ia an i b j c = true) (hi : ops[i]? = some oi) (hj : ops[j]? = some oj) : PairOkB ops ia an i b oi j c oj := by
 unfold ordPairB at h
 rw [hi, hj] at h
 simp only [Bool.and_eq_true, bne_iff_ne, ne_eq] at h
 obtain ⟨⟨⟨h1, h2⟩, h3⟩, h4⟩ := h
 refine ⟨h1, fun hb hj => ?_, fun hc => ?_, fun hc hj d hd hm => ?_, fun d hd hm => ?_⟩
 ·subst hb; simpa [hj] using h2
 ·have hcj : (c && !ia j) = false := by rcases hc with hc | hc <;> simp [hc]
  cases hd : oj.dst with
  | none => rw [hd] at h3; simp only [hcj] at h3; cases h3
  | some d =>
   rw [hd] at h3
   simp only [hcj, cond_false] at h3
   simp at h3
   exact ⟨d, rfl, h3.1, h3.2⟩
 ·subst hc
  have hcj : (true && !ia j) = true := by simp [hj]
  rw [hd] at h3
  simp only [hcj, cond_true] at h3
  simp at h3
  rcases h3 with h3 | h3
  ·rcases hm with hm | hm
   ·exact absurd hm h3.1
   ·exact absurd hm h3.2
  ·exact h3
 ·rw [hd] at h4
  simp only [Bool.or_eq_true, Bool.not_eq_true', List.contains_eq_mem, decide_eq_false_iff_not] at h4
  rcases h4 with h4 | h4
  ·exact absurd hm h4
  ·obtain ⟨x, hx, hx2⟩ := any_mem h4
   simp only [Bool.and_eq_true, beq_iff_eq] at hx2
   exact ⟨x, hx, hx2.1, hx2.2⟩

/-- The state on the way. -/
structure NB (P : Program) (Γ : Cx) (ops : Array Oper) (als : List Al) (Hs : List HE) (K : Env → List HE → Prop) (ord : List (Nat × Bool)) (listed : Array Bool) (A : Act) (W : World) (pre ms : List (Nat × Bool)) (Pd : List Nat) (ea : Nat → Option Nat) (E : Env) (H : List HE) (R : Nat → Prop) : Prop where
 size : listed.size = ops.size
 closed : Closed ops listed
 part : ∀ i, i < ops.size → (listed.getD i false = false ↔ (i ∈ Pd ∨ i ∈ ms.map Prod.fst) ∧ ea i = none)
 ord : ord = pre ++ ms
 pdp : ∀ i ∈ Pd, (i, false) ∈ pre
 am : AB P Γ.N ops als Hs K ms E H
 pend : ∀ i ∈ Pd, ∃ o d v, ops[i]? = some o ∧ o.dst = some d ∧ d < Γ.N ∧ look E d = some v ∧ OpF P Γ.N ops o (rst E (o.looksAt ops)) Hs (Is v)
 rels : RelS Γ R (H ++ (early als ea ++ Hs)) W
 eal : ∀ i b, ea i = some b → ∃ al ∈ als, al.i = i ∧ (i, true) ∈ ms ∧ A.eval (.tmp al.d) = .pointer (some ⟨b, 0, none⟩)
 defers : A.defers = []
 tmps : A.tmps.size = Γ.N
 act : ∀ t v, look E t = some v → (∀ i ∈ Pd, ∀ o, ops[i]? = some o → o.dst ≠ some t) → (∀ al ∈ als, ea al.i ≠ none → t ≠ al.d) → RelV R W v (A.eval (.tmp t))

variable {Γ : Cx} {als : List Al} {Hs : List HE} {K : Env → List HE → Prop} {ord : List (Nat × Bool)}
def alsOk (P : Program) (N : Nat) (ops : Array Oper) (als : List Al) : Prop := (als.map Al.i).Nodup ∧ ∀ al ∈ als, al.ok P N ops

/-- What reads is pending as soon as it may run. -/
theorem NB.absorb {listed : Array Bool} {A : Act} {W : World} {R : Nat → Prop} (hok : ordPairsB ops (isAl als) (ancs ops.toList []) ord = true) (hals : alsOk P Γ.N ops als) : ∀ (ms pre : List (Nat × Bool)) (Pd : List Nat) (ea : Nat → Option Nat) (E : Env) (H : List HE), NB P Γ ops als Hs K ord listed A W pre ms Pd ea E H R →
  ∃ pre' ms' Pd' ea' E' H', NB P Γ ops als Hs K ord listed A W pre' ms' Pd' ea' E' H' R ∧ (ms' = [] ∨ ∃ m r, ms' = (m, true) :: r ∧ ea' m = none)
 | [], pre, Pd, ea, E, H, h => ⟨pre, [], Pd, ea, E, H, h, .inl rfl⟩
 | (m, true) :: r, pre, Pd, ea, E, H, h => by
  cases hea : ea m with
  | none => exact ⟨pre, _, Pd, ea, E, H, h, .inr ⟨m, r, rfl, hea⟩⟩
  | some b =>
   obtain ⟨al, halm, rfl, -, hpt⟩ := h.eal m b hea
   have hfa : alAt als al.i = some al := alAt_mem hals.1 halm
   have hisal : isAl als al.i = true := by unfold isAl; rw [hfa]; rfl
   obtain ⟨oa, ho, hd, hN, hg, hop⟩ := hals.2 al halm
   have ham := h.am
   rw [AB, hfa] at ham
   have hord := h.ord
   have hq := ordPairsB_app (pre := pre) (r := (al.i, true) :: r) (by rw [← hord]; exact hok)
   have hself : ∀ i ∈ Pd, i ≠ al.i := fun i hi e => by
    have := pairOkB (hq.2 _ (h.pdp i hi) (al.i, true) (List.mem_cons_self ..)) (by rw [e]; exact ho) ho
    exact this.ne e
   have hp : ∀ i ∈ Pd, ∀ oi, ops[i]? = some oi → al.d ∉ oi.looksAt ops ∧ oi.dst ≠ some al.d := fun i hi oi hoi => by
    have := pairOkB (hq.2 _ (h.pdp i hi) (al.i, true) (List.mem_cons_self ..)) hoi ho
    obtain ⟨d', h1, h2, h3⟩ := this.flt (.inr hisal)
    rw [hd] at h1
    cases h1
    exact ⟨h2, h3⟩
   have hnr : al.i ∉ r.map Prod.fst := fun hm => by
    obtain ⟨⟨j, c⟩, hq3, hji⟩ := List.mem_map.1 hm
    have h9 := (ordPairsB_app (pre := pre ++ [(al.i, true)]) (r := r) (by rw [List.append_assoc, List.singleton_append, ← hord]; exact hok)).2 (al.i, true) (by simp) _ hq3
    simp only at hji
    subst hji
    exact (pairOkB h9 ho ho).ne rfl
   refine NB.absorb hok hals r (pre ++ [(al.i, true)]) Pd (upd ea al.i none) ((al.d, .val (.pointer (some ⟨b, 0, none⟩))) :: E) (al.he b :: H) ⟨h.size, h.closed, fun i hi => ?_, by rw [hord]; simp, fun i hi => List.mem_append_left _ (h.pdp i hi), ham b, fun i hi => ?_, ?_, fun i b' hb' => ?_, h.defers, h.tmps, fun t x ht hpd hne => ?_⟩
   ·rw [h.part i hi]
    simp only [List.map_cons, List.mem_cons]
    by_cases hia : i = al.i
    ·subst hia
     rw [upd_same, hea]
     constructor
     ·rintro ⟨_, h2⟩; cases h2
     ·rintro ⟨h1 | h1, _⟩
      ·exact absurd rfl (hself _ h1)
      ·exact absurd h1 hnr
    ·rw [upd_other _ _ hia]
     refine and_congr_left fun _ => ?_
     constructor
     ·rintro (h1 | h1 | h1)
      ·exact .inl h1
      ·exact absurd h1 hia
      ·exact .inr h1
     ·rintro (h1 | h1)
      ·exact .inl h1
      ·exact .inr (.inr h1)
   ·obtain ⟨oi, di, vi, h1, h2, h3, h4, h5⟩ := h.pend i hi
    obtain ⟨h6, h7⟩ := hp i hi oi h1
    refine ⟨oi, di, vi, h1, h2, h3, ?_, by rw [rst_skip h6]; exact h5⟩
    rw [look_skip (fun e => h7 (by rw [h2, e]))]; exact h4
   ·refine h.rels.perm ?_
    have h1 := early_clear hals.1 halm hea
    show (al.he b :: (H ++ (early als (upd ea al.i none) ++ Hs))).Perm (H ++ (early als ea ++ Hs))
    refine (List.perm_middle (a := al.he b) (l₁ := H)).symm.trans ?_
    exact ((h1.symm.append_right Hs).append_left H)
   ·by_cases hia : i = al.i
    ·subst hia; rw [upd_same] at hb'; cases hb'
    ·rw [upd_other _ _ hia] at hb'
     obtain ⟨al', h1, h2, h3, h4⟩ := h.eal i b' hb'
     refine ⟨al', h1, h2, ?_, h4⟩
     rcases List.mem_cons.1 h3 with h3 | h3
     ·cases h3; exact absurd rfl hia
     ·exact h3
   ·by_cases hdt : al.d = t
    ·subst hdt
     rw [look_here] at ht
     cases ht
     rw [hpt]; exact .val _
    ·rw [look_skip hdt] at ht
     refine h.act t x ht hpd fun al' hal' hne' e => ?_
     by_cases hia : al'.i = al.i
     ·have h1 := alAt_mem hals.1 hal'
      rw [hia, hfa] at h1
      cases h1
      exact hdt e.symm
     ·exact hne al' hal' (by rw [upd_other _ _ hia]; exact hne') e
 | (j, false) :: r, pre, Pd, ea, E, H, h => by
  obtain ⟨o, d, v, ho, hd, hN, hop, ham⟩ := h.am
  have hord := h.ord
  have hq := ordPairsB_app (pre := pre) (r := (j, false) :: r) (by rw [← hord]; exact hok)
  have hself : d ∉ o.looksAt ops := by
   have := hq.1
   rw [ordPairsB] at this
   simp only [Bool.and_eq_true, ho, hd, Bool.false_or] at this
   simpa using this.1.1
  have hp : ∀ i ∈ Pd, ∀ oi, ops[i]? = some oi → d ∉ oi.looksAt ops ∧ oi.dst ≠ some d := fun i hi oi hoi => by
   have := pairOkB (hq.2 _ (h.pdp i hi) (j, false) (List.mem_cons_self ..)) hoi ho
   obtain ⟨d', h1, h2, h3⟩ := this.flt (.inl rfl)
   rw [hd] at h1
   cases h1
   exact ⟨h2, h3⟩
  refine NB.absorb hok hals r (pre ++ [(j, false)]) (j :: Pd) ea ((d, v) :: E) H ⟨h.size, h.closed, fun i hi => ?_, by rw [hord]; simp, fun i hi => ?_, ham, fun i hi => ?_, h.rels, fun i b hb => ?_, h.defers, h.tmps, fun t x ht hpd hea => ?_⟩
  ·rw [h.part i hi]
   simp only [List.map_cons, List.mem_cons]
   refine and_congr_left fun _ => ?_
   constructor
   ·rintro (h | h | h)
    ·exact .inl (.inr h)
    ·exact .inl (.inl h)
    ·exact .inr h
   ·rintro ((h | h) | h)
    ·exact .inr (.inl h)
    ·exact .inl h
    ·exact .inr (.inr h)
  ·rcases List.mem_cons.1 hi with rfl | hi
   ·simp
   ·exact List.mem_append_left _ (h.pdp i hi)
  ·rcases List.mem_cons.1 hi with rfl | hi
   ·exact ⟨o, d, v, ho, hd, hN, look_here, by rw [rst_skip hself]; exact hop⟩
   ·obtain ⟨oi, di, vi, h1, h2, h3, h4, h5⟩ := h.pend i hi
    obtain ⟨h6, h7⟩ := hp i hi oi h1
    refine ⟨oi, di, vi, h1, h2, h3, ?_, by rw [rst_skip h6]; exact h5⟩
    rw [look_skip (fun e => h7 (by rw [h2, e]))]; exact h4
  ·obtain ⟨al, h0, h9, h1, h2⟩ := h.eal i b hb
   refine ⟨al, h0, h9, ?_, h2⟩
   rcases List.mem_cons.1 h1 with h1 | h1
   ·cases h1
   ·exact h1
  ·have hne : d ≠ t := fun e => hpd j (List.mem_cons_self ..) o ho (by rw [hd, e])
   rw [look_skip hne] at ht
   exact h.act t x ht (fun i hi => hpd i (List.mem_cons_of_mem _ hi)) hea

theorem NB.reads {listed : Array Bool} {A : Act} {W : World} {R : Nat → Prop} {pre ms : List (Nat × Bool)} {Pd : List Nat} {ea : Nat → Option Nat} {E : Env} {H : List HE} (hok : ordPairsB ops (isAl als) (ancs ops.toList []) ord = true) (hals : alsOk P Γ.N ops als) (h : NB P Γ ops als Hs K ord listed A W pre ms Pd ea E H R)
  {i : Nat} {b : Bool} {o : Oper} (ho : ops[i]? = some o) (hdeps : ∀ e ∈ o.after, Region.binds .any e = true → listed.getD e.on false = true) (hi : (i, b) ∈ pre ∧ i ∈ Pd ∧ b = false ∨ ∃ r, ms = (i, b) :: r ∧ isAl als i = false) : RelA Γ.N R W (rst E (o.looksAt ops)) A := by
 refine ⟨h.defers, h.tmps, fun t v ht => ?_⟩
 obtain ⟨htl, ht⟩ := look_rst ht
 have hnal : ∀ al ∈ als, ea al.i ≠ none → t ≠ al.d := fun al halm hea e => by
  obtain ⟨oa, hoa, hda, -⟩ := hals.2 al halm
  have hisal : isAl als al.i = true := by unfold isAl; rw [alAt_mem hals.1 halm]; rfl
  obtain ⟨b', hb'⟩ := Option.ne_none_iff_exists'.1 hea
  obtain ⟨_, -, -, hmem, -⟩ := h.eal _ b' hb'
  have key : ordPairB ops (isAl als) (ancs ops.toList []) i b al.i true = true → False := fun hp => by
   obtain ⟨d', h1, h2, -⟩ := (pairOkB hp ho hoa).flt (.inr hisal)
   rw [hda] at h1; cases h1
   exact h2 (e ▸ htl)
  rcases hi with ⟨hip, -, -⟩ | ⟨r, hms, hne⟩
  ·exact key ((ordPairsB_app (pre := pre) (r := ms) (by rw [← h.ord]; exact hok)).2 _ hip _ hmem)
  ·rw [hms] at hmem
   rcases List.mem_cons.1 hmem with h9 | h9
   ·cases h9; rw [hisal] at hne; cases hne
   ·exact key ((ordPairsB_app (pre := pre ++ [(i, b)]) (r := r) (by have := h.ord; rw [List.append_assoc, List.singleton_append, ← hms, ← this]; exact hok)).2 (i, b) (by simp) _ h9)
 refine h.act t v ht (fun k hk ok hok' hdk => ?_) hnal
 have hkp := h.pdp k hk
 have hkn : ea k = none := Classical.byContradiction fun hne => by
  obtain ⟨b', hb'⟩ := Option.ne_none_iff_exists'.1 hne
  obtain ⟨al, halm, rfl, hmem, -⟩ := h.eal _ b' hb'
  obtain ⟨oa, hoa, hda, -⟩ := hals.2 al halm
  exact (pairOkB ((ordPairsB_app (pre := pre) (r := ms) (by rw [← h.ord]; exact hok)).2 _ hkp _ hmem) hok' hoa).ne rfl
 have hkf : listed.getD k false = false := (h.part k (Array.getElem?_eq_some_iff.1 hok').1).2 ⟨.inl hk, hkn⟩
 have direct : ordPairB ops (isAl als) (ancs ops.toList []) k false i b = true → False := fun hp => by
  obtain ⟨e, he, hb, hon⟩ := (pairOkB hp hok' ho).reads t hdk htl
  have := hdeps e he hb
  rw [hon, hkf] at this; cases this
 rcases hi with ⟨hip, hiP, rfl⟩ | ⟨r, hms, -⟩
 ·-- both ahead
  obtain ⟨p1, p2, hp12⟩ := List.append_of_mem hkp
  have hord := h.ord
  rw [hp12, List.append_assoc] at hord
  rw [hp12] at hip
  rcases List.mem_append.1 hip with hip | hip
  ·-- i ahead of k
   have hq := ordPairsB_app (pre := p1) (by rw [← hord]; exact hok)
   have := pairOkB (hq.2 _ hip (k, false) (List.mem_cons_self ..)) ho hok'
   obtain ⟨d', h1, h2, -⟩ := this.flt (.inl rfl)
   rw [hdk] at h1; cases h1
   exact h2 htl
  ·rcases List.mem_cons.1 hip with he | hip
   ·cases he
    -- itself
    have hq := (ordPairsB_app (pre := p1) (by rw [← hord]; exact hok)).1
    rw [List.cons_append, ordPairsB] at hq
    simp only [Bool.and_eq_true] at hq
    obtain rfl : o = ok := by rw [ho] at hok'; exact Option.some.inj hok'
    have := hq.1.1
    rw [ho] at this
    simp only [hdk, Bool.false_or] at this
    simp at this
    exact this htl
   ·rw [show p1 ++ ((k, false) :: p2 ++ ms) = (p1 ++ [(k, false)]) ++ (p2 ++ ms) by simp] at hord
    have hq := ordPairsB_app (pre := p1 ++ [(k, false)]) (by rw [← hord]; exact hok)
    exact direct (hq.2 (k, false) (by simp) (i, false) (List.mem_append_left _ hip))
 ·have hq := ordPairsB_app (pre := pre) (r := ms) (by rw [← h.ord]; exact hok)
  exact direct (hq.2 _ hkp (i, b) (by rw [hms]; exact List.mem_cons_self ..))

/-! One operation. -/
theorem AB.op {i d : Nat} {r : List (Nat × Bool)} {E : Env} {H : List HE} {o : Oper} {v : AV} (ho : ops[i]? = some o) (h : OpW P N o (rst E (o.looksAt ops)) Hs (Is v)) (hw : wantedIs ops (rst E (o.looksAt ops)) o = some true) (hd : o.dst = some d) (hN : Nat.ble (d + 1) N = true) (k : AB P N ops als Hs K r ((d, v) :: E) H) :
  AB P N ops als Hs K ((i, false) :: r) E H := ⟨o, d, v, ho, hd, Nat.le_of_ble_eq_true hN, .run hw h, k⟩
theorem AB.opG {i d : Nat} {r : List (Nat × Bool)} {E : Env} {H : List HE} {o : Oper} {c : Bool} {v : AV} (ho : ops[i]? = some o) (hw : guardIs ops (rst E (o.looksAt ops)) o = some c) (hd : o.dst = some d) (hN : Nat.ble (d + 1) N = true) (h : c = true → OpW P N o (rst E (o.looksAt ops)) Hs (Is v)) (k : AB P N ops als Hs K r ((d, .opt c v) :: E) H) :
  AB P N ops als Hs K ((i, false) :: r) E H := ⟨o, d, _, ho, hd, Nat.le_of_ble_eq_true hN, .opt hw h, k⟩
theorem AB.no {i d : Nat} {r : List (Nat × Bool)} {E : Env} {H : List HE} {o : Oper} (ho : ops[i]? = some o) (hw : wantedIs ops (rst E (o.looksAt ops)) o = some false) (hd : o.dst = some d) (hN : Nat.ble (d + 1) N = true) (k : AB P N ops als Hs K r ((d, .val undef) :: E) H) :
  AB P N ops als Hs K ((i, false) :: r) E H := ⟨o, d, _, ho, hd, Nat.le_of_ble_eq_true hN, .no hw, k⟩
theorem AB.main {i : Nat} {r : List (Nat × Bool)} {E : Env} {H : List HE} (o : Oper) (ho : ops[i]? = some o) (hne : isAl als i = false) (h : ∀ w0 R0, AO ⟨w0, footOf H, R0, N⟩ P ops (QS ⟨w0, footOf H, R0, N⟩ o.dst (fun v H' => AB P N ops als Hs K r (putE o.dst v E) H')) [o] (rst E (o.looksAt ops)) H) :
  AB P N ops als Hs K ((i, true) :: r) E H := by
 have : alAt als i = none := by unfold isAl at hne; exact Option.not_isSome_iff_eq_none.1 (by rw [hne]; simp)
 rw [AB, this]; exact ⟨o, ho, h⟩
theorem AB.box {i : Nat} {r : List (Nat × Bool)} {E : Env} {H : List HE} (al : Al) (he : alAt als i = some al) (k : ∀ b, AB P N ops als Hs K r ((al.d, .val (.pointer (some ⟨b, 0, none⟩))) :: E) (al.he b :: H)) : AB P N ops als Hs K ((i, true) :: r) E H := by rw [AB, he]; exact k
theorem alsOk.nil {P : Program} {N : Nat} {ops : Array Oper} : alsOk P N ops [] := ⟨.nil, fun _ h => by cases h⟩
theorem alsOk.cons {P : Program} {N : Nat} {ops : Array Oper} {al : Al} {als : List Al} (h : al.ok P N ops) (hn : (als.map Al.i).contains al.i = false) (hs : alsOk P N ops als) : alsOk P N ops (al :: als) := by
 refine ⟨?_, fun x hx => ?_⟩
 ·rw [List.map_cons, List.nodup_cons]
  exact ⟨fun hm => (by rw [List.contains_iff_mem.2 hm] at hn; cases hn), hs.1⟩
 ·rcases List.mem_cons.1 hx with e | hx
  ·rw [e]; exact h
  ·exact hs.2 x hx
theorem AB.nil {E : Env} {H : List HE} (h : K E H) : AB P N ops als Hs K [] E H := h
end
end Go.Proofs.YtoonnnifelnaiaaGreatDoor.A

namespace Go.Proofs.YtoonnnifelnaiaaGreatDoor.Dk
open Go.RowKit L A
set_option linter.unusedVariables false
set_option maxRecDepth 20000
set_option linter.unusedSimpArgs false
attribute [local irreducible] AW AQ AO

theorem left_fn (b : Nat) (l : List Int) (k : Nat) :
  Sp Tryz.prog 12 [ptr b] [deck b l k] (IsM (.val (.bool (decide (k < l.length)))) (deck b l k)) := by
 refine Sp.enter Tryz.func12 rfl _ Tryz.ntmps12 rfl (fun w0 R0 => ?_)
 refine AW.seq ?_
 refine AW.region ?_
 refine AO.op (O.assign rfl rfl) rfl rfl rfl ?_
 refine AO.nil ?_
 refine AQ.thenN ?_
 refine AW.seq ?_
 refine AW.regionD 11 (by kernel_rfl) (by kernel_rfl) ?_
 simp only [List.take_succ_cons, List.take_zero, List.drop_succ_cons, List.drop_zero]
 refine FA.op (O.move rfl rfl) rfl rfl rfl rfl ?_
 first | (refine FA.op (O.nilCheck rfl rfl) rfl rfl rfl rfl ?_) | (refine FA.op (O.nilCheckR rfl rfl) rfl rfl rfl rfl ?_)
 first | (refine FA.op (O.fieldAddrR rfl rfl) rfl rfl rfl rfl ?_) | (refine FA.op (O.fieldAddr rfl rfl) rfl rfl rfl rfl ?_)
 first | (refine FA.op (O.loadR rfl rfl (by first | rfl | assumption)) rfl rfl rfl rfl ?_) | (refine FA.op (O.load rfl rfl (by repeat (first | exact List.Mem.head _ | refine List.Mem.tail _ ?_)) (by first | rfl | assumption)) rfl rfl rfl rfl ?_)
 refine FA.op (O.move rfl rfl) rfl rfl rfl rfl ?_
 first | (refine FA.op (O.nilCheck rfl rfl) rfl rfl rfl rfl ?_) | (refine FA.op (O.nilCheckR rfl rfl) rfl rfl rfl rfl ?_)
 first | (refine FA.op (O.fieldAddrR rfl rfl) rfl rfl rfl rfl ?_) | (refine FA.op (O.fieldAddr rfl rfl) rfl rfl rfl rfl ?_)
 first | (refine FA.op (O.loadR rfl rfl (by first | rfl | assumption)) rfl rfl rfl rfl ?_) | (refine FA.op (O.load rfl rfl (by repeat (first | exact List.Mem.head _ | refine List.Mem.tail _ ?_)) (by first | rfl | assumption)) rfl rfl rfl rfl ?_)
 first | (refine FA.op (O.lenR rfl rfl) rfl rfl rfl rfl ?_) | (refine FA.op (O.lenV rfl rfl) rfl rfl rfl rfl ?_) | (refine FA.op (O.lenRow rfl rfl (by repeat (first | exact List.Mem.head _ | refine List.Mem.tail _ ?_))) rfl rfl rfl rfl ?_) | (refine FA.op (O.lenS rfl rfl) rfl rfl rfl rfl ?_)
 refine FA.op (O.lss rfl rfl rfl (by first | exact bTrue (by omega) | exact bFalse (by omega) | assumption | rfl)) rfl rfl rfl rfl ?_
 refine FA.op (O.assign rfl rfl) rfl rfl rfl rfl ?_
 refine FA.nil ?_
 simp only [chosen, List.nil_append, List.cons_append, List.append_nil]
 refine AO.nil ?_
 refine AQ.thenN ?_
 refine AW.ret ?_
 have e1 : decide ((k : Int) < (l.length : Int)) = decide (k < l.length) := by simp
 refine AQ.ret1 rfl rfl ⟨_, by repeat (first | exact List.Sublist.slnil | refine List.Sublist.cons_cons _ ?_ | refine List.Sublist.cons _ ?_), List.Perm.refl _⟩ (⟨congrArg (fun z => AV.val (.bool z)) e1, rfl⟩)
end Go.Proofs.YtoonnnifelnaiaaGreatDoor.Dk

namespace Go.Proofs.YtoonnnifelnaiaaGreatDoor.By
open Go.RowKit L A Dk
set_option linter.unusedVariables false
set_option maxRecDepth 20000
set_option linter.unusedSimpArgs false
attribute [local irreducible] AW AQ AO
theorem adv_in {l : List Int} {k : Nat} (h : k < l.length) : adv l k = k + 1 := if_pos h
theorem adv_ge (l : List Int) (k : Nat) : k ≤ adv l k := by unfold adv; split <;> omega
theorem fewT_fn (l : List Int) : Sp Tryz.prog 7 [roI l] [] (Is (.val (.bool (decide ((l.length : Int) ≤ 300))))) := by
 refine Sp.enter Tryz.func7 rfl _ Tryz.ntmps7 rfl (fun w0 R0 => ?_)
 refine AW.seq ?_
 refine AW.region ?_
 refine AO.op (O.assign rfl rfl) rfl rfl rfl ?_
 refine AO.nil ?_
 refine AQ.thenN ?_
 refine AW.seq ?_
 refine AW.region ?_
 refine AO.op (O.move rfl rfl) rfl rfl rfl ?_
 first | (refine AO.op (O.lenR rfl rfl) rfl rfl rfl ?_) | (refine AO.op (O.lenV rfl rfl) rfl rfl rfl ?_) | (refine AO.op (O.lenRow rfl rfl (by repeat (first | exact List.Mem.head _ | refine List.Mem.tail _ ?_))) rfl rfl rfl ?_) | (refine AO.op (O.lenS rfl rfl) rfl rfl rfl ?_)
 refine AO.op (O.leq rfl rfl rfl (by first | exact bTrue (by omega) | exact bFalse (by omega) | assumption | rfl)) rfl rfl rfl ?_
 refine AO.op (O.assign rfl rfl) rfl rfl rfl ?_
 refine AO.nil ?_
 refine AQ.thenN ?_
 refine AW.ret ?_
 refine AQ.ret1 rfl rfl ⟨_, List.nil_sublist _, .nil⟩ (⟨rfl, rfl⟩)
end Go.Proofs.YtoonnnifelnaiaaGreatDoor.By
