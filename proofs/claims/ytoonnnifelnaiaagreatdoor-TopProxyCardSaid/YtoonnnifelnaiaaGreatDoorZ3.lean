/-
  Texts laid together (part 3): what the statement's walk and plain law need. No condition.
-/
import Derived.Maps.OwnSet
import Derived.DeepKeys4
import Derived.WideKeyPair
import Derived.Laws.Externs
import Derived.Scope
import Derived.Lib.Bytealg
import Derived.Test.YtoonnnifelnaiaaGreatDoorZ2
namespace Go.Proofs.YtoonnnifelnaiaaGreatDoor.By
open Go.RowKit L A
set_option linter.unusedVariables false
set_option maxRecDepth 20000
set_option linter.unusedSimpArgs false
inductive It where
 | mk (k n : Int) (b : List UInt8) (l : List It)
abbrev hnI (k n : Int) (b : List UInt8) (m : Nat) : Int := if k = 2 ∨ k = 3 then (b.length : Int) else if k = 4 then (m : Int) else n
mutual
def It.cells : It → List AV
 | .mk k n b l => [.val (.int .i64 k), .val (.int .u64 n), roB b, .ro false l.length (itsA l)]
def itsA : List It → List AV
 | [] => []
 | x :: l => x.cells ++ itsA l
end
mutual
def It.nodes : It → Nat
 | .mk _ _ _ l => 1 + nodesL l
def nodesL : List It → Nat
 | [] => 0
 | x :: l => x.nodes + nodesL l
end
mutual
def It.enc : It → List UInt8
 | .mk k n b l => u8 (32 * k + hnI k n b l.length) :: (b ++ encIs l)
def encIs : List It → List UInt8
 | [] => []
 | x :: l => x.enc ++ encIs l
end
theorem itsA_eq (l : List It) : itsA l = l.flatMap It.cells := by
 induction l with
 | nil => rw [itsA]; rfl
 | cons x l ih => rw [itsA, ih, List.flatMap_cons]
theorem cells_len (x : It) : x.cells.length = 4 := by cases x; rw [It.cells]; rfl
theorem encIs_snoc (l : List It) (x : It) : encIs (l ++ [x]) = encIs l ++ x.enc := by
 induction l with
 | nil => simp [encIs]
 | cons y l ih => simp [encIs, ih]
theorem nodesL_snoc (l : List It) (x : It) : nodesL (l ++ [x]) = nodesL l + x.nodes := by
 induction l with
 | nil => simp [nodesL]
 | cons y l ih => simp [nodesL, ih]; omega
theorem encIs_app (l m : List It) : encIs (l ++ m) = encIs l ++ encIs m := by
 induction l with
 | nil => simp [encIs]
 | cons y l ih => simp [encIs, ih]
theorem nodesL_app (l m : List It) : nodesL (l ++ m) = nodesL l + nodesL m := by
 induction l with
 | nil => simp [nodesL]
 | cons y l ih => simp [nodesL, ih]; omega
def itN : It := .mk 0 0 [] []
abbrev itat (l : List It) (k : Nat) : It := l.getD k itN
theorem getIt {l : List It} {k : Nat} (h : k < l.length) {j : Nat} (hj : j = k) : ((itsA l).drop (j * 4)).take 4 = (itat l k).cells := by
 rw [itsA_eq]; exact flat_at cells_len itN h hj
theorem itsA_len (l : List It) : (itsA l).length = l.length * 4 := by rw [itsA_eq]; exact flat_len cells_len l
theorem enc_leaf {k n : Int} {b : List UInt8} : (It.mk k n b []).enc = u8 (32 * k + hnI k n b 0) :: b := by
 rw [It.enc, encIs, List.append_nil]; rfl
theorem enc_arr {n : Int} {l : List It} : (It.mk 4 n [] l).enc = u8 (32 * 4 + (l.length : Int)) :: encIs l := by
 rw [It.enc]; rfl
theorem node_mk {k n : Int} {b : List UInt8} {l : List It} : (It.mk k n b l).nodes = 1 + nodesL l := by rw [It.nodes]
end Go.Proofs.YtoonnnifelnaiaaGreatDoor.By

namespace Go.Proofs.YtoonnnifelnaiaaGreatDoor.By
open Go.RowKit L A Dk
set_option linter.unusedVariables false
set_option maxRecDepth 20000
set_option linter.unusedSimpArgs false
attribute [local irreducible] AW AQ AO
def leafI : It → Prop
 | .mk k n b l => l = [] ∧ ((k = 0 ∨ k = 1) ∧ 0 ≤ n ∧ n < 24 ∧ b = [] ∨ k = 2 ∧ n = 0 ∧ b.length < 24)
def It.ok : Nat → It → Prop
 | 0, x => leafI x
 | d + 1, x => leafI x ∨ match x with | .mk k n b l => k = 4 ∧ n = 0 ∧ b = [] ∧ l.length < 24 ∧ ∀ y ∈ l, It.ok d y
theorem head_fn (k n : Int) (hk : 0 ≤ k ∧ k ≤ 7) (hn : 0 ≤ n ∧ n < 24) : Sp Tryz.prog 113 [.val (.int .u8 k), .val (.int .u64 n)] [] (Is (roB [u8 (32 * k + n)])) := by
 have e : k * 32 + n = ((u8 (32 * k + n)).toNat : Int) := by rw [u8_small (by omega)]; omega
 refine Sp.enter Tryz.func113 rfl _ Tryz.ntmps113 rfl (fun w0 R0 => ?_)
 refine AW.seq ?_
 refine AW.region ?_
 refine AO.op (O.assign rfl rfl) rfl rfl rfl ?_
 refine AO.nil ?_
 refine AQ.thenN ?_
 refine AW.seq ?_
 refine AW.region ?_
 refine AO.op (O.move rfl rfl) rfl rfl rfl ?_
 refine AO.op (O.shlK 5 32 rfl rfl rfl rfl (by rfl) (by exact wU8 (by omega))) rfl rfl rfl ?_
 refine AO.op (O.assign rfl rfl) rfl rfl rfl ?_
 refine AO.nil ?_
 refine AQ.thenN ?_
 refine AW.seq ?_
 refine AW.block ?_
 refine AW.seq ?_
 refine AW.region ?_
 refine AO.op (O.move rfl rfl) rfl rfl rfl ?_
 refine AO.op (O.lss rfl rfl rfl (by exact bTrue (by omega))) rfl rfl rfl ?_
 refine AO.op (O.assign rfl rfl) rfl rfl rfl ?_
 refine AO.nil ?_
 refine AQ.thenN ?_
 refine AW.condT rfl ?_
 refine AW.seq ?_
 refine AW.region ?_
 refine AO.op (O.move rfl rfl) rfl rfl rfl ?_
 refine AO.op (O.move rfl rfl) rfl rfl rfl ?_
 refine AO.op (O.conv rfl rfl (by exact wU8 (by omega))) rfl rfl rfl ?_
 refine AO.op (O.or_ rfl rfl rfl (orU8 5 (m := 32) (by decide) (by omega) (by omega))) rfl rfl rfl ?_
 refine AO.opB (O.buildSlice rfl rfl rfl (by rfl) (by rfl) (by rfl) (by rfl)) rfl rfl rfl ?_
 intro B1
 refine AO.op (O.assign rfl rfl) rfl rfl rfl ?_
 refine AO.nil ?_
 refine AQ.thenN ?_
 refine AW.ret ?_
 refine AQ.blockR ?_
 refine AQ.thenR ?_
 refine AQ.g ?_
 (refine G.freezeSl 0 4 rfl rfl ⟨Nat.le_refl _, by unfold maxLen; omega⟩ ?_; refine G.unfull 4 rfl ?_)
 refine AQ.u ?_
 try dsimp only [List.map, List.eraseIdx, List.cons_append, List.nil_append]
 refine AQ.ret1 rfl rfl ⟨_, List.nil_sublist _, .nil⟩ (⟨by show AV.ro false 1 [.val (.int .u8 (k * 32 + n))] = _; rw [e]; rfl, rfl⟩)
theorem majorL_fn {k n : Int} {b : List UInt8} (hk : k = 0 ∨ k = 1) (hn : 0 ≤ n ∧ n < 24) : Sp Tryz.prog 114 [.agg [.val (.int .i64 k), .val (.int .u64 n), roB b, .ro false 0 []]] [] (Is (.tup [.val (.int .u8 k), .val (.int .u64 n)])) := by
 refine Sp.enter Tryz.func114 rfl _ Tryz.ntmps114 rfl (fun w0 R0 => ?_)
 refine AW.seq ?_
 refine AW.region ?_
 refine AO.opB (O.box rfl rfl rfl rfl rfl) rfl rfl rfl ?_
 intro B1
 refine AO.op (O.assign rfl rfl) rfl rfl rfl ?_
 refine AO.op (O.assign rfl rfl) rfl rfl rfl ?_
 refine AO.nil ?_
 refine AQ.thenN ?_
 refine AW.seq ?_
 refine AW.seq ?_
 refine AW.region ?_
 refine AO.op (O.fieldAddr rfl rfl) rfl rfl rfl ?_
 refine AO.op (O.load rfl rfl (by repeat (exact List.Mem.head _)) (by rfl)) rfl rfl rfl ?_
 refine AO.nil ?_
 refine AQ.thenN ?_
 refine AW.block ?_
 refine AW.seq ?_
 refine AW.seq ?_
 refine AW.region ?_
 refine AO.op (O.eql rfl rfl rfl (by exact beq_eq_false_iff_ne.2 (by omega))) rfl rfl rfl ?_
 refine AO.op (O.assign rfl rfl) rfl rfl rfl ?_
 refine AO.nil ?_
 refine AQ.thenN ?_
 refine AW.condF rfl ?_
 refine AW.region ?_
 refine AO.op (O.eql rfl rfl rfl (by exact beq_eq_false_iff_ne.2 (by omega))) rfl rfl rfl ?_
 refine AO.op (O.assign rfl rfl) rfl rfl rfl ?_
 refine AO.nil ?_
 refine AQ.thenN ?_
 refine AW.condF rfl ?_
 refine AW.seq ?_
 refine AW.region ?_
 refine AO.op (O.eql rfl rfl rfl (by exact beq_eq_false_iff_ne.2 (by omega))) rfl rfl rfl ?_
 refine AO.op (O.assign rfl rfl) rfl rfl rfl ?_
 refine AO.nil ?_
 refine AQ.thenN ?_
 refine AW.condF rfl ?_
 refine AW.seq ?_
 refine AW.region ?_
 refine AO.op (O.eql rfl rfl rfl (by exact beq_eq_false_iff_ne.2 (by omega))) rfl rfl rfl ?_
 refine AO.op (O.assign rfl rfl) rfl rfl rfl ?_
 refine AO.nil ?_
 refine AQ.thenN ?_
 refine AW.condF rfl ?_
 refine AW.skip ?_
 refine AQ.blockN ?_
 refine AQ.thenN ?_
 refine AW.seq ?_
 refine AW.regionD 7 (by kernel_rfl) (by kernel_rfl) ?_
 simp only [List.take_succ_cons, List.take_zero, List.drop_succ_cons, List.drop_zero]
 refine FA.op (O.fieldAddr rfl rfl) rfl rfl rfl rfl ?_
 refine FA.op (O.load rfl rfl (by repeat (exact List.Mem.head _)) (by rfl)) rfl rfl rfl rfl ?_
 refine FA.op (O.conv rfl rfl (by exact wU8 (by omega))) rfl rfl rfl rfl ?_
 refine FA.op (O.fieldAddr rfl rfl) rfl rfl rfl rfl ?_
 refine FA.op (O.load rfl rfl (by repeat (exact List.Mem.head _)) (by rfl)) rfl rfl rfl rfl ?_
 refine FA.op (O.assign rfl rfl) rfl rfl rfl rfl ?_
 refine FA.op (O.assign rfl rfl) rfl rfl rfl rfl ?_
 refine FA.nil ?_
 simp only [chosen, List.nil_append, List.cons_append, List.append_nil]
 refine AO.nil ?_
 refine AQ.thenN ?_
 refine AW.ret ?_
 refine AQ.ret2 rfl rfl rfl ⟨_, List.nil_sublist _, .nil⟩ (⟨rfl, rfl⟩)
theorem majorB_fn {b : List UInt8} (hb : b.length < 24) : Sp Tryz.prog 114 [.agg [.val (.int .i64 2), .val (.int .u64 0), roB b, .ro false 0 []]] [] (Is (.tup [.val (.int .u8 2), .val (.int .u64 (b.length : Int))])) := by
 refine Sp.enter Tryz.func114 rfl _ Tryz.ntmps114 rfl (fun w0 R0 => ?_)
 refine AW.seq ?_
 refine AW.region ?_
 refine AO.opB (O.box rfl rfl rfl rfl rfl) rfl rfl rfl ?_
 intro B1
 refine AO.op (O.assign rfl rfl) rfl rfl rfl ?_
 refine AO.op (O.assign rfl rfl) rfl rfl rfl ?_
 refine AO.nil ?_
 refine AQ.thenN ?_
 refine AW.seq ?_
 refine AW.seq ?_
 refine AW.region ?_
 refine AO.op (O.fieldAddr rfl rfl) rfl rfl rfl ?_
 refine AO.op (O.load rfl rfl (by repeat (exact List.Mem.head _)) (by rfl)) rfl rfl rfl ?_
 refine AO.nil ?_
 refine AQ.thenN ?_
 refine AW.block ?_
 refine AW.seq ?_
 refine AW.seq ?_
 refine AW.region ?_
 refine AO.op (O.eql rfl rfl rfl (by exact beq_iff_eq.2 (by omega))) rfl rfl rfl ?_
 refine AO.op (O.assign rfl rfl) rfl rfl rfl ?_
 refine AO.nil ?_
 refine AQ.thenN ?_
 refine AW.condT rfl ?_
 refine AW.skip ?_
 refine AQ.thenN ?_
 refine AW.condT rfl ?_
 refine AW.seq ?_
 refine AW.regionD 9 (by kernel_rfl) (by kernel_rfl) ?_
 simp only [List.take_succ_cons, List.take_zero, List.drop_succ_cons, List.drop_zero]
 refine FA.op (O.fieldAddr rfl rfl) rfl rfl rfl rfl ?_
 refine FA.op (O.load rfl rfl (by repeat (exact List.Mem.head _)) (by rfl)) rfl rfl rfl rfl ?_
 refine FA.op (O.conv rfl rfl (by exact wU8 (by omega))) rfl rfl rfl rfl ?_
 refine FA.op (O.fieldAddr rfl rfl) rfl rfl rfl rfl ?_
 refine FA.op (O.load rfl rfl (by repeat (exact List.Mem.head _)) (by rfl)) rfl rfl rfl rfl ?_
 refine FA.op (O.lenR rfl rfl) rfl rfl rfl rfl ?_
 refine FA.op (O.conv rfl rfl (by exact wU64 (by omega))) rfl rfl rfl rfl ?_
 refine FA.op (O.assign rfl rfl) rfl rfl rfl rfl ?_
 refine FA.op (O.assign rfl rfl) rfl rfl rfl rfl ?_
 refine FA.nil ?_
 simp only [chosen, List.nil_append, List.cons_append, List.append_nil]
 refine AO.nil ?_
 refine AQ.thenN ?_
 refine AW.ret ?_
 refine AQ.blockR ?_
 refine AQ.thenR ?_
 refine AQ.ret2 rfl rfl rfl ⟨_, List.nil_sublist _, .nil⟩ (⟨rfl, rfl⟩)
theorem majorA_fn {m : Nat} {xs : List AV} (hm : m < 24) : Sp Tryz.prog 114 [.agg [.val (.int .i64 4), .val (.int .u64 0), roB [], .ro false m xs]] [] (Is (.tup [.val (.int .u8 4), .val (.int .u64 (m : Int))])) := by
 refine Sp.enter Tryz.func114 rfl _ Tryz.ntmps114 rfl (fun w0 R0 => ?_)
 refine AW.seq ?_
 refine AW.region ?_
 refine AO.opB (O.box rfl rfl rfl rfl rfl) rfl rfl rfl ?_
 intro B1
 refine AO.op (O.assign rfl rfl) rfl rfl rfl ?_
 refine AO.op (O.assign rfl rfl) rfl rfl rfl ?_
 refine AO.nil ?_
 refine AQ.thenN ?_
 refine AW.seq ?_
 refine AW.seq ?_
 refine AW.region ?_
 refine AO.op (O.fieldAddr rfl rfl) rfl rfl rfl ?_
 refine AO.op (O.load rfl rfl (by repeat (exact List.Mem.head _)) (by rfl)) rfl rfl rfl ?_
 refine AO.nil ?_
 refine AQ.thenN ?_
 refine AW.block ?_
 refine AW.seq ?_
 refine AW.seq ?_
 refine AW.region ?_
 refine AO.op (O.eql rfl rfl rfl (by exact beq_eq_false_iff_ne.2 (by omega))) rfl rfl rfl ?_
 refine AO.op (O.assign rfl rfl) rfl rfl rfl ?_
 refine AO.nil ?_
 refine AQ.thenN ?_
 refine AW.condF rfl ?_
 refine AW.region ?_
 refine AO.op (O.eql rfl rfl rfl (by exact beq_eq_false_iff_ne.2 (by omega))) rfl rfl rfl ?_
 refine AO.op (O.assign rfl rfl) rfl rfl rfl ?_
 refine AO.nil ?_
 refine AQ.thenN ?_
 refine AW.condF rfl ?_
 refine AW.seq ?_
 refine AW.region ?_
 refine AO.op (O.eql rfl rfl rfl (by exact beq_iff_eq.2 (by omega))) rfl rfl rfl ?_
 refine AO.op (O.assign rfl rfl) rfl rfl rfl ?_
 refine AO.nil ?_
 refine AQ.thenN ?_
 refine AW.condT rfl ?_
 refine AW.seq ?_
 refine AW.regionD 6 (by kernel_rfl) (by kernel_rfl) ?_
 simp only [List.take_succ_cons, List.take_zero, List.drop_succ_cons, List.drop_zero]
 refine FA.op (O.fieldAddr rfl rfl) rfl rfl rfl rfl ?_
 refine FA.op (O.load rfl rfl (by repeat (exact List.Mem.head _)) (by rfl)) rfl rfl rfl rfl ?_
 refine FA.op (O.lenR rfl rfl) rfl rfl rfl rfl ?_
 refine FA.op (O.conv rfl rfl (by exact wU64 (by omega))) rfl rfl rfl rfl ?_
 refine FA.op (O.assign rfl rfl) rfl rfl rfl rfl ?_
 refine FA.op (O.assign rfl rfl) rfl rfl rfl rfl ?_
 refine FA.nil ?_
 simp only [chosen, List.nil_append, List.cons_append, List.append_nil]
 refine AO.nil ?_
 refine AQ.thenN ?_
 refine AW.ret ?_
 refine AQ.blockR ?_
 refine AQ.thenR ?_
 refine AQ.ret2 rfl rfl rfl ⟨_, List.nil_sublist _, .nil⟩ (⟨rfl, rfl⟩)
theorem plainL_fn {k n : Int} (hk : k = 0 ∨ k = 1) : Sp Tryz.prog 116 [.agg [.val (.int .i64 k), .val (.int .u64 n), roB [], .ro false 0 []]] [] (Is (.tup [.val (.bool true), .val (.bool true)])) := by
 rcases hk with rfl | rfl
 ·refine Sp.enter Tryz.func116 rfl _ Tryz.ntmps116 rfl (fun w0 R0 => ?_)
  refine AW.seq ?_
  refine AW.region ?_
  refine AO.opB (O.box rfl rfl rfl rfl rfl) rfl rfl rfl ?_
  intro B1
  refine AO.op (O.assign rfl rfl) rfl rfl rfl ?_
  refine AO.op (O.assign rfl rfl) rfl rfl rfl ?_
  refine AO.nil ?_
  refine AQ.thenN ?_
  refine AW.seq ?_
  refine AW.seq ?_
  refine AW.region ?_
  refine AO.op (O.fieldAddr rfl rfl) rfl rfl rfl ?_
  refine AO.op (O.load rfl rfl (by repeat (exact List.Mem.head _)) (by rfl)) rfl rfl rfl ?_
  refine AO.nil ?_
  refine AQ.thenN ?_
  refine AW.block ?_
  refine AW.seq ?_
  refine AW.seq ?_
  refine AW.region ?_
  refine AO.op (O.eql rfl rfl rfl (by exact beq_iff_eq.2 (by omega))) rfl rfl rfl ?_
  refine AO.op (O.assign rfl rfl) rfl rfl rfl ?_
  refine AO.nil ?_
  refine AQ.thenN ?_
  refine AW.condT rfl ?_
  refine AW.skip ?_
  refine AQ.thenN ?_
  refine AW.condT rfl ?_
  refine AW.seq ?_
  refine AW.region ?_
  refine AO.op (O.fieldAddr rfl rfl) rfl rfl rfl ?_
  refine AO.op (O.load rfl rfl (by repeat (exact List.Mem.head _)) (by rfl)) rfl rfl rfl ?_
  refine AO.op (O.lenR rfl rfl) rfl rfl rfl ?_
  refine AO.op (O.eql rfl rfl rfl (by rfl)) rfl rfl rfl ?_
  refine AO.op (O.move rfl rfl) rfl rfl rfl ?_
  refine AO.op (O.fieldAddr rfl rfl) rfl rfl rfl ?_
  refine AO.op (O.load rfl rfl (by repeat (exact List.Mem.head _)) (by rfl)) rfl rfl rfl ?_
  refine AO.op (O.lenR rfl rfl) rfl rfl rfl ?_
  refine AO.op (O.eql rfl rfl rfl (by exact beq_iff_eq.2 (by omega))) rfl rfl rfl ?_
  refine AO.op (O.pickT rfl rfl rfl) rfl rfl rfl ?_
  refine AO.op (O.assign rfl rfl) rfl rfl rfl ?_
  refine AO.op (O.assign rfl rfl) rfl rfl rfl ?_
  refine AO.nil ?_
  refine AQ.thenN ?_
  refine AW.ret ?_
  refine AQ.blockR ?_
  refine AQ.thenR ?_
  refine AQ.ret2 rfl rfl rfl ⟨_, List.nil_sublist _, .nil⟩ (⟨rfl, rfl⟩)
 ·refine Sp.enter Tryz.func116 rfl _ Tryz.ntmps116 rfl (fun w0 R0 => ?_)
  refine AW.seq ?_
  refine AW.region ?_
  refine AO.opB (O.box rfl rfl rfl rfl rfl) rfl rfl rfl ?_
  intro B1
  refine AO.op (O.assign rfl rfl) rfl rfl rfl ?_
  refine AO.op (O.assign rfl rfl) rfl rfl rfl ?_
  refine AO.nil ?_
  refine AQ.thenN ?_
  refine AW.seq ?_
  refine AW.seq ?_
  refine AW.region ?_
  refine AO.op (O.fieldAddr rfl rfl) rfl rfl rfl ?_
  refine AO.op (O.load rfl rfl (by repeat (exact List.Mem.head _)) (by rfl)) rfl rfl rfl ?_
  refine AO.nil ?_
  refine AQ.thenN ?_
  refine AW.block ?_
  refine AW.seq ?_
  refine AW.seq ?_
  refine AW.region ?_
  refine AO.op (O.eql rfl rfl rfl (by exact beq_eq_false_iff_ne.2 (by omega))) rfl rfl rfl ?_
  refine AO.op (O.assign rfl rfl) rfl rfl rfl ?_
  refine AO.nil ?_
  refine AQ.thenN ?_
  refine AW.condF rfl ?_
  refine AW.region ?_
  refine AO.op (O.eql rfl rfl rfl (by exact beq_iff_eq.2 (by omega))) rfl rfl rfl ?_
  refine AO.op (O.assign rfl rfl) rfl rfl rfl ?_
  refine AO.nil ?_
  refine AQ.thenN ?_
  refine AW.condT rfl ?_
  refine AW.seq ?_
  refine AW.region ?_
  refine AO.op (O.fieldAddr rfl rfl) rfl rfl rfl ?_
  refine AO.op (O.load rfl rfl (by repeat (exact List.Mem.head _)) (by rfl)) rfl rfl rfl ?_
  refine AO.op (O.lenR rfl rfl) rfl rfl rfl ?_
  refine AO.op (O.eql rfl rfl rfl (by rfl)) rfl rfl rfl ?_
  refine AO.op (O.move rfl rfl) rfl rfl rfl ?_
  refine AO.op (O.fieldAddr rfl rfl) rfl rfl rfl ?_
  refine AO.op (O.load rfl rfl (by repeat (exact List.Mem.head _)) (by rfl)) rfl rfl rfl ?_
  refine AO.op (O.lenR rfl rfl) rfl rfl rfl ?_
  refine AO.op (O.eql rfl rfl rfl (by exact beq_iff_eq.2 (by omega))) rfl rfl rfl ?_
  refine AO.op (O.pickT rfl rfl rfl) rfl rfl rfl ?_
  refine AO.op (O.assign rfl rfl) rfl rfl rfl ?_
  refine AO.op (O.assign rfl rfl) rfl rfl rfl ?_
  refine AO.nil ?_
  refine AQ.thenN ?_
  refine AW.ret ?_
  refine AQ.blockR ?_
  refine AQ.thenR ?_
  refine AQ.ret2 rfl rfl rfl ⟨_, List.nil_sublist _, .nil⟩ (⟨rfl, rfl⟩)
theorem plainB_fn {b : List UInt8} : Sp Tryz.prog 116 [.agg [.val (.int .i64 2), .val (.int .u64 0), roB b, .ro false 0 []]] [] (Is (.tup [.val (.bool true), .val (.bool true)])) := by
 refine Sp.enter Tryz.func116 rfl _ Tryz.ntmps116 rfl (fun w0 R0 => ?_)
 refine AW.seq ?_
 refine AW.region ?_
 refine AO.opB (O.box rfl rfl rfl rfl rfl) rfl rfl rfl ?_
 intro B1
 refine AO.op (O.assign rfl rfl) rfl rfl rfl ?_
 refine AO.op (O.assign rfl rfl) rfl rfl rfl ?_
 refine AO.nil ?_
 refine AQ.thenN ?_
 refine AW.seq ?_
 refine AW.seq ?_
 refine AW.region ?_
 refine AO.op (O.fieldAddr rfl rfl) rfl rfl rfl ?_
 refine AO.op (O.load rfl rfl (by repeat (exact List.Mem.head _)) (by rfl)) rfl rfl rfl ?_
 refine AO.nil ?_
 refine AQ.thenN ?_
 refine AW.block ?_
 refine AW.seq ?_
 refine AW.seq ?_
 refine AW.region ?_
 refine AO.op (O.eql rfl rfl rfl (by exact beq_eq_false_iff_ne.2 (by omega))) rfl rfl rfl ?_
 refine AO.op (O.assign rfl rfl) rfl rfl rfl ?_
 refine AO.nil ?_
 refine AQ.thenN ?_
 refine AW.condF rfl ?_
 refine AW.region ?_
 refine AO.op (O.eql rfl rfl rfl (by exact beq_eq_false_iff_ne.2 (by omega))) rfl rfl rfl ?_
 refine AO.op (O.assign rfl rfl) rfl rfl rfl ?_
 refine AO.nil ?_
 refine AQ.thenN ?_
 refine AW.condF rfl ?_
 refine AW.seq ?_
 refine AW.region ?_
 refine AO.op (O.eql rfl rfl rfl (by exact beq_iff_eq.2 (by omega))) rfl rfl rfl ?_
 refine AO.op (O.assign rfl rfl) rfl rfl rfl ?_
 refine AO.nil ?_
 refine AQ.thenN ?_
 refine AW.condT rfl ?_
 refine AW.seq ?_
 refine AW.region ?_
 refine AO.op (O.fieldAddr rfl rfl) rfl rfl rfl ?_
 refine AO.op (O.load rfl rfl (by repeat (exact List.Mem.head _)) (by rfl)) rfl rfl rfl ?_
 refine AO.op (O.eql rfl rfl rfl (by exact beq_iff_eq.2 (by omega))) rfl rfl rfl ?_
 refine AO.op (O.move rfl rfl) rfl rfl rfl ?_
 refine AO.op (O.fieldAddr rfl rfl) rfl rfl rfl ?_
 refine AO.op (O.load rfl rfl (by repeat (exact List.Mem.head _)) (by rfl)) rfl rfl rfl ?_
 refine AO.op (O.lenR rfl rfl) rfl rfl rfl ?_
 refine AO.op (O.eql rfl rfl rfl (by exact beq_iff_eq.2 (by omega))) rfl rfl rfl ?_
 refine AO.op (O.pickT rfl rfl rfl) rfl rfl rfl ?_
 refine AO.op (O.assign rfl rfl) rfl rfl rfl ?_
 refine AO.op (O.assign rfl rfl) rfl rfl rfl ?_
 refine AO.nil ?_
 refine AQ.thenN ?_
 refine AW.ret ?_
 refine AQ.blockR ?_
 refine AQ.thenR ?_
 refine AQ.ret2 rfl rfl rfl ⟨_, List.nil_sublist _, .nil⟩ (⟨rfl, rfl⟩)
theorem plainA_fn {m : Nat} {xs : List AV} : Sp Tryz.prog 116 [.agg [.val (.int .i64 4), .val (.int .u64 0), roB [], .ro false m xs]] [] (Is (.tup [.val (.bool false), .val (.bool false)])) := by
 refine Sp.enter Tryz.func116 rfl _ Tryz.ntmps116 rfl (fun w0 R0 => ?_)
 refine AW.seq ?_
 refine AW.region ?_
 refine AO.opB (O.box rfl rfl rfl rfl rfl) rfl rfl rfl ?_
 intro B1
 refine AO.op (O.assign rfl rfl) rfl rfl rfl ?_
 refine AO.op (O.assign rfl rfl) rfl rfl rfl ?_
 refine AO.nil ?_
 refine AQ.thenN ?_
 refine AW.seq ?_
 refine AW.seq ?_
 refine AW.region ?_
 refine AO.op (O.fieldAddr rfl rfl) rfl rfl rfl ?_
 refine AO.op (O.load rfl rfl (by repeat (exact List.Mem.head _)) (by rfl)) rfl rfl rfl ?_
 refine AO.nil ?_
 refine AQ.thenN ?_
 refine AW.block ?_
 refine AW.seq ?_
 refine AW.seq ?_
 refine AW.region ?_
 refine AO.op (O.eql rfl rfl rfl (by exact beq_eq_false_iff_ne.2 (by omega))) rfl rfl rfl ?_
 refine AO.op (O.assign rfl rfl) rfl rfl rfl ?_
 refine AO.nil ?_
 refine AQ.thenN ?_
 refine AW.condF rfl ?_
 refine AW.region ?_
 refine AO.op (O.eql rfl rfl rfl (by exact beq_eq_false_iff_ne.2 (by omega))) rfl rfl rfl ?_
 refine AO.op (O.assign rfl rfl) rfl rfl rfl ?_
 refine AO.nil ?_
 refine AQ.thenN ?_
 refine AW.condF rfl ?_
 refine AW.seq ?_
 refine AW.region ?_
 refine AO.op (O.eql rfl rfl rfl (by exact beq_eq_false_iff_ne.2 (by omega))) rfl rfl rfl ?_
 refine AO.op (O.assign rfl rfl) rfl rfl rfl ?_
 refine AO.nil ?_
 refine AQ.thenN ?_
 refine AW.condF rfl ?_
 refine AW.seq ?_
 refine AW.region ?_
 refine AO.op (O.eql rfl rfl rfl (by exact beq_eq_false_iff_ne.2 (by omega))) rfl rfl rfl ?_
 refine AO.op (O.assign rfl rfl) rfl rfl rfl ?_
 refine AO.nil ?_
 refine AQ.thenN ?_
 refine AW.condF rfl ?_
 refine AW.seq ?_
 refine AW.region ?_
 refine AO.op (O.eql rfl rfl rfl (by exact beq_eq_false_iff_ne.2 (by omega))) rfl rfl rfl ?_
 refine AO.op (O.assign rfl rfl) rfl rfl rfl ?_
 refine AO.nil ?_
 refine AQ.thenN ?_
 refine AW.condF rfl ?_
 refine AW.seq ?_
 refine AW.region ?_
 refine AO.op (O.eql rfl rfl rfl (by exact beq_eq_false_iff_ne.2 (by omega))) rfl rfl rfl ?_
 refine AO.op (O.assign rfl rfl) rfl rfl rfl ?_
 refine AO.nil ?_
 refine AQ.thenN ?_
 refine AW.condF rfl ?_
 refine AW.skip ?_
 refine AQ.blockN ?_
 refine AQ.thenN ?_
 refine AW.seq ?_
 refine AW.region ?_
 refine AO.op (O.assign rfl rfl) rfl rfl rfl ?_
 refine AO.op (O.assign rfl rfl) rfl rfl rfl ?_
 refine AO.nil ?_
 refine AQ.thenN ?_
 refine AW.ret ?_
 refine AQ.ret2 rfl rfl rfl ⟨_, List.nil_sublist _, .nil⟩ (⟨rfl, rfl⟩)
abbrev chkB (B : Nat) (it sz : Int) : HE := .blk B 162 2 [.val (.int .i64 it), .val (.int .i64 sz)]
theorem spendL_fn {B : Nat} {k n it sz : Int} (hk : k = 0 ∨ k = 1) (hn : 0 ≤ n ∧ n < 24) (hs : 0 ≤ sz ∧ sz < 4000) : Sp Tryz.prog 117 [ptr B, .agg [.val (.int .i64 k), .val (.int .u64 n), roB [], .ro false 0 []]] [chkB B it sz] (IsM (.val (.bool true)) (chkB B it (sz + 1))) := by
 have z1 : ([u8 (32 * k + n)] : List UInt8).length = 1 := rfl
 have z2 : ([] : List UInt8).length = 0 := rfl
 refine Sp.enter Tryz.func117 rfl _ Tryz.ntmps117 rfl (fun w0 R0 => ?_)
 refine AW.seq ?_
 refine AW.region ?_
 refine AO.opB (O.box rfl rfl rfl rfl rfl) rfl rfl rfl ?_
 intro B1
 refine AO.op (O.assign rfl rfl) rfl rfl rfl ?_
 refine AO.nil ?_
 refine AQ.thenN ?_
 refine AW.seq ?_
 refine AW.seq ?_
 refine AW.region ?_
 refine AO.op (O.fieldAddr rfl rfl) rfl rfl rfl ?_
 refine AO.op (O.load rfl rfl (by repeat (exact List.Mem.head _)) (by rfl)) rfl rfl rfl ?_
 refine AO.nil ?_
 refine AQ.thenN ?_
 refine AW.block ?_
 refine AW.seq ?_
 refine AW.region ?_
 refine AO.op (O.eql rfl rfl rfl (by exact beq_eq_false_iff_ne.2 (by omega))) rfl rfl rfl ?_
 refine AO.op (O.assign rfl rfl) rfl rfl rfl ?_
 refine AO.nil ?_
 refine AQ.thenN ?_
 refine AW.condF rfl ?_
 refine AW.seq ?_
 refine AW.region ?_
 refine AO.op (O.eql rfl rfl rfl (by exact beq_eq_false_iff_ne.2 (by omega))) rfl rfl rfl ?_
 refine AO.op (O.assign rfl rfl) rfl rfl rfl ?_
 refine AO.nil ?_
 refine AQ.thenN ?_
 refine AW.condF rfl ?_
 refine AW.regionD 17 (by kernel_rfl) (by kernel_rfl) ?_
 simp only [List.take_succ_cons, List.take_zero, List.drop_succ_cons, List.drop_zero]
 refine FA.op (O.move rfl rfl) rfl rfl rfl rfl ?_
 refine FA.op (O.nilCheck rfl rfl) rfl rfl rfl rfl ?_
 refine FA.op (O.fieldAddr rfl rfl) rfl rfl rfl rfl ?_
 refine FA.op (O.load rfl rfl (by repeat (first | exact List.Mem.head _ | refine List.Mem.tail _ ?_)) (by rfl)) rfl rfl rfl rfl ?_
 (refine FA.op (O.loadK rfl rfl (by repeat (exact List.Mem.head _)) (by (dsimp only [List.set, List.cons_append, List.nil_append, List.take, List.drop]; done)) (by rfl)) rfl rfl rfl rfl ?_)
 refine FA.op (O.call rfl Tryz.func114 rfl rfl rfl (majorL_fn hk hn)) rfl rfl rfl rfl ?_
 refine FA.op (O.extract rfl rfl rfl) rfl rfl rfl rfl ?_
 refine FA.op (O.extract rfl rfl rfl) rfl rfl rfl rfl ?_
 refine FA.op (O.call rfl Tryz.func113 rfl rfl rfl (head_fn k n ⟨by omega, by omega⟩ hn)) rfl rfl rfl rfl ?_
 refine FA.op (O.lenR rfl rfl) rfl rfl rfl rfl ?_
 refine FA.op (O.fieldAddr rfl rfl) rfl rfl rfl rfl ?_
 refine FA.op (O.load rfl rfl (by repeat (exact List.Mem.head _)) (by rfl)) rfl rfl rfl rfl ?_
 refine FA.op (O.lenR rfl rfl) rfl rfl rfl rfl ?_
 refine FA.op (O.add rfl rfl rfl (by exact wI64 (by omega))) rfl rfl rfl rfl ?_
 refine FA.op (O.add rfl rfl rfl (by exact wI64 (by omega))) rfl rfl rfl rfl ?_
 refine FA.op (O.nilCheck rfl rfl) rfl rfl rfl rfl ?_
 refine FA.op (O.fieldAddr rfl rfl) rfl rfl rfl rfl ?_
 refine FA.nil ?_
 simp only [chosen, List.nil_append, List.cons_append, List.append_nil]
 (refine AO.store (i := 1) rfl rfl rfl rfl rfl rfl (by rfl) (by rfl) (by rfl) (by (dsimp only [List.set, List.cons_append, List.nil_append, List.take, List.drop]; done)) (by (dsimp only [List.set, List.cons_append, List.nil_append, List.take, List.drop]; done)) ?_)
 refine AO.nil ?_
 refine AQ.blockN ?_
 refine AQ.thenN ?_
 refine AW.seq ?_
 refine AW.region ?_
 refine AO.op (O.move rfl rfl) rfl rfl rfl ?_
 refine AO.op (O.nilCheck rfl rfl) rfl rfl rfl ?_
 refine AO.op (O.fieldAddr rfl rfl) rfl rfl rfl ?_
 refine AO.op (O.load rfl rfl (by repeat (first | exact List.Mem.head _ | refine List.Mem.tail _ ?_)) (by rfl)) rfl rfl rfl ?_
 refine AO.op (O.leq rfl rfl rfl (by exact bTrue (by omega))) rfl rfl rfl ?_
 refine AO.op (O.assign rfl rfl) rfl rfl rfl ?_
 refine AO.nil ?_
 refine AQ.thenN ?_
 refine AW.ret ?_
 refine AQ.ret1 rfl rfl ⟨_, by repeat (first | exact List.Sublist.slnil | refine List.Sublist.cons_cons _ ?_ | refine List.Sublist.cons _ ?_), List.Perm.refl _⟩ (⟨rfl, rfl⟩)
theorem spendB_fn {B : Nat} {b : List UInt8} {it sz : Int} (hb : b.length < 24) (hs : 0 ≤ sz ∧ sz < 4000) : Sp Tryz.prog 117 [ptr B, .agg [.val (.int .i64 2), .val (.int .u64 0), roB b, .ro false 0 []]] [chkB B it sz] (IsM (.val (.bool true)) (chkB B it (sz + (1 + (b.length : Int))))) := by
 have z1 : ([u8 (32 * 2 + (b.length : Int))] : List UInt8).length = 1 := rfl
 refine Sp.enter Tryz.func117 rfl _ Tryz.ntmps117 rfl (fun w0 R0 => ?_)
 refine AW.seq ?_
 refine AW.region ?_
 refine AO.opB (O.box rfl rfl rfl rfl rfl) rfl rfl rfl ?_
 intro B1
 refine AO.op (O.assign rfl rfl) rfl rfl rfl ?_
 refine AO.nil ?_
 refine AQ.thenN ?_
 refine AW.seq ?_
 refine AW.seq ?_
 refine AW.region ?_
 refine AO.op (O.fieldAddr rfl rfl) rfl rfl rfl ?_
 refine AO.op (O.load rfl rfl (by repeat (exact List.Mem.head _)) (by rfl)) rfl rfl rfl ?_
 refine AO.nil ?_
 refine AQ.thenN ?_
 refine AW.block ?_
 refine AW.seq ?_
 refine AW.region ?_
 refine AO.op (O.eql rfl rfl rfl (by exact beq_eq_false_iff_ne.2 (by omega))) rfl rfl rfl ?_
 refine AO.op (O.assign rfl rfl) rfl rfl rfl ?_
 refine AO.nil ?_
 refine AQ.thenN ?_
 refine AW.condF rfl ?_
 refine AW.seq ?_
 refine AW.region ?_
 refine AO.op (O.eql rfl rfl rfl (by exact beq_eq_false_iff_ne.2 (by omega))) rfl rfl rfl ?_
 refine AO.op (O.assign rfl rfl) rfl rfl rfl ?_
 refine AO.nil ?_
 refine AQ.thenN ?_
 refine AW.condF rfl ?_
 refine AW.regionD 17 (by kernel_rfl) (by kernel_rfl) ?_
 simp only [List.take_succ_cons, List.take_zero, List.drop_succ_cons, List.drop_zero]
 refine FA.op (O.move rfl rfl) rfl rfl rfl rfl ?_
 refine FA.op (O.nilCheck rfl rfl) rfl rfl rfl rfl ?_
 refine FA.op (O.fieldAddr rfl rfl) rfl rfl rfl rfl ?_
 refine FA.op (O.load rfl rfl (by repeat (first | exact List.Mem.head _ | refine List.Mem.tail _ ?_)) (by rfl)) rfl rfl rfl rfl ?_
 (refine FA.op (O.loadK rfl rfl (by repeat (exact List.Mem.head _)) (by (dsimp only [List.set, List.cons_append, List.nil_append, List.take, List.drop]; done)) (by rfl)) rfl rfl rfl rfl ?_)
 refine FA.op (O.call rfl Tryz.func114 rfl rfl rfl (majorB_fn hb)) rfl rfl rfl rfl ?_
 refine FA.op (O.extract rfl rfl rfl) rfl rfl rfl rfl ?_
 refine FA.op (O.extract rfl rfl rfl) rfl rfl rfl rfl ?_
 refine FA.op (O.call rfl Tryz.func113 rfl rfl rfl (head_fn 2 (b.length : Int) ⟨by omega, by omega⟩ ⟨by omega, by omega⟩)) rfl rfl rfl rfl ?_
 refine FA.op (O.lenR rfl rfl) rfl rfl rfl rfl ?_
 refine FA.op (O.fieldAddr rfl rfl) rfl rfl rfl rfl ?_
 refine FA.op (O.load rfl rfl (by repeat (exact List.Mem.head _)) (by rfl)) rfl rfl rfl rfl ?_
 refine FA.op (O.lenR rfl rfl) rfl rfl rfl rfl ?_
 refine FA.op (O.add rfl rfl rfl (by exact wI64 (by omega))) rfl rfl rfl rfl ?_
 refine FA.op (O.add rfl rfl rfl (by exact wI64 (by omega))) rfl rfl rfl rfl ?_
 refine FA.op (O.nilCheck rfl rfl) rfl rfl rfl rfl ?_
 refine FA.op (O.fieldAddr rfl rfl) rfl rfl rfl rfl ?_
 refine FA.nil ?_
 simp only [chosen, List.nil_append, List.cons_append, List.append_nil]
 (refine AO.store (i := 1) rfl rfl rfl rfl rfl rfl (by rfl) (by rfl) (by rfl) (by (dsimp only [List.set, List.cons_append, List.nil_append, List.take, List.drop]; done)) (by (dsimp only [List.set, List.cons_append, List.nil_append, List.take, List.drop]; done)) ?_)
 refine AO.nil ?_
 refine AQ.blockN ?_
 refine AQ.thenN ?_
 refine AW.seq ?_
 refine AW.region ?_
 refine AO.op (O.move rfl rfl) rfl rfl rfl ?_
 refine AO.op (O.nilCheck rfl rfl) rfl rfl rfl ?_
 refine AO.op (O.fieldAddr rfl rfl) rfl rfl rfl ?_
 refine AO.op (O.load rfl rfl (by repeat (first | exact List.Mem.head _ | refine List.Mem.tail _ ?_)) (by rfl)) rfl rfl rfl ?_
 refine AO.op (O.leq rfl rfl rfl (by exact bTrue (by omega))) rfl rfl rfl ?_
 refine AO.op (O.assign rfl rfl) rfl rfl rfl ?_
 refine AO.nil ?_
 refine AQ.thenN ?_
 refine AW.ret ?_
 refine AQ.ret1 rfl rfl ⟨_, by repeat (first | exact List.Sublist.slnil | refine List.Sublist.cons_cons _ ?_ | refine List.Sublist.cons _ ?_), List.Perm.refl _⟩ (⟨rfl, rfl⟩)
theorem spendA_fn {B m : Nat} {xs : List AV} {it sz : Int} (hm : m < 24) (hs : 0 ≤ sz ∧ sz < 4000) : Sp Tryz.prog 117 [ptr B, .agg [.val (.int .i64 4), .val (.int .u64 0), roB [], .ro false m xs]] [chkB B it sz] (IsM (.val (.bool true)) (chkB B it (sz + 1))) := by
 have z1 : ([u8 (32 * 4 + (m : Int))] : List UInt8).length = 1 := rfl
 have z2 : ([] : List UInt8).length = 0 := rfl
 refine Sp.enter Tryz.func117 rfl _ Tryz.ntmps117 rfl (fun w0 R0 => ?_)
 refine AW.seq ?_
 refine AW.region ?_
 refine AO.opB (O.box rfl rfl rfl rfl rfl) rfl rfl rfl ?_
 intro B1
 refine AO.op (O.assign rfl rfl) rfl rfl rfl ?_
 refine AO.nil ?_
 refine AQ.thenN ?_
 refine AW.seq ?_
 refine AW.seq ?_
 refine AW.region ?_
 refine AO.op (O.fieldAddr rfl rfl) rfl rfl rfl ?_
 refine AO.op (O.load rfl rfl (by repeat (exact List.Mem.head _)) (by rfl)) rfl rfl rfl ?_
 refine AO.nil ?_
 refine AQ.thenN ?_
 refine AW.block ?_
 refine AW.seq ?_
 refine AW.region ?_
 refine AO.op (O.eql rfl rfl rfl (by exact beq_eq_false_iff_ne.2 (by omega))) rfl rfl rfl ?_
 refine AO.op (O.assign rfl rfl) rfl rfl rfl ?_
 refine AO.nil ?_
 refine AQ.thenN ?_
 refine AW.condF rfl ?_
 refine AW.seq ?_
 refine AW.region ?_
 refine AO.op (O.eql rfl rfl rfl (by exact beq_eq_false_iff_ne.2 (by omega))) rfl rfl rfl ?_
 refine AO.op (O.assign rfl rfl) rfl rfl rfl ?_
 refine AO.nil ?_
 refine AQ.thenN ?_
 refine AW.condF rfl ?_
 refine AW.regionD 17 (by kernel_rfl) (by kernel_rfl) ?_
 simp only [List.take_succ_cons, List.take_zero, List.drop_succ_cons, List.drop_zero]
 refine FA.op (O.move rfl rfl) rfl rfl rfl rfl ?_
 refine FA.op (O.nilCheck rfl rfl) rfl rfl rfl rfl ?_
 refine FA.op (O.fieldAddr rfl rfl) rfl rfl rfl rfl ?_
 refine FA.op (O.load rfl rfl (by repeat (first | exact List.Mem.head _ | refine List.Mem.tail _ ?_)) (by rfl)) rfl rfl rfl rfl ?_
 (refine FA.op (O.loadK rfl rfl (by repeat (exact List.Mem.head _)) (by (dsimp only [List.set, List.cons_append, List.nil_append, List.take, List.drop]; done)) (by rfl)) rfl rfl rfl rfl ?_)
 refine FA.op (O.call rfl Tryz.func114 rfl rfl rfl (majorA_fn hm)) rfl rfl rfl rfl ?_
 refine FA.op (O.extract rfl rfl rfl) rfl rfl rfl rfl ?_
 refine FA.op (O.extract rfl rfl rfl) rfl rfl rfl rfl ?_
 refine FA.op (O.call rfl Tryz.func113 rfl rfl rfl (head_fn 4 (m : Int) ⟨by omega, by omega⟩ ⟨by omega, by omega⟩)) rfl rfl rfl rfl ?_
 refine FA.op (O.lenR rfl rfl) rfl rfl rfl rfl ?_
 refine FA.op (O.fieldAddr rfl rfl) rfl rfl rfl rfl ?_
 refine FA.op (O.load rfl rfl (by repeat (exact List.Mem.head _)) (by rfl)) rfl rfl rfl rfl ?_
 refine FA.op (O.lenR rfl rfl) rfl rfl rfl rfl ?_
 refine FA.op (O.add rfl rfl rfl (by exact wI64 (by omega))) rfl rfl rfl rfl ?_
 refine FA.op (O.add rfl rfl rfl (by exact wI64 (by omega))) rfl rfl rfl rfl ?_
 refine FA.op (O.nilCheck rfl rfl) rfl rfl rfl rfl ?_
 refine FA.op (O.fieldAddr rfl rfl) rfl rfl rfl rfl ?_
 refine FA.nil ?_
 simp only [chosen, List.nil_append, List.cons_append, List.append_nil]
 (refine AO.store (i := 1) rfl rfl rfl rfl rfl rfl (by rfl) (by rfl) (by rfl) (by (dsimp only [List.set, List.cons_append, List.nil_append, List.take, List.drop]; done)) (by (dsimp only [List.set, List.cons_append, List.nil_append, List.take, List.drop]; done)) ?_)
 refine AO.nil ?_
 refine AQ.blockN ?_
 refine AQ.thenN ?_
 refine AW.seq ?_
 refine AW.region ?_
 refine AO.op (O.move rfl rfl) rfl rfl rfl ?_
 refine AO.op (O.nilCheck rfl rfl) rfl rfl rfl ?_
 refine AO.op (O.fieldAddr rfl rfl) rfl rfl rfl ?_
 refine AO.op (O.load rfl rfl (by repeat (first | exact List.Mem.head _ | refine List.Mem.tail _ ?_)) (by rfl)) rfl rfl rfl ?_
 refine AO.op (O.leq rfl rfl rfl (by exact bTrue (by omega))) rfl rfl rfl ?_
 refine AO.op (O.assign rfl rfl) rfl rfl rfl ?_
 refine AO.nil ?_
 refine AQ.thenN ?_
 refine AW.ret ?_
 refine AQ.ret1 rfl rfl ⟨_, by repeat (first | exact List.Sublist.slnil | refine List.Sublist.cons_cons _ ?_ | refine List.Sublist.cons _ ?_), List.Perm.refl _⟩ (⟨rfl, rfl⟩)
theorem chkL_fn {B : Nat} {k n it sz lv : Int} (hk : k = 0 ∨ k = 1) (hn : 0 ≤ n ∧ n < 24) (hi : 0 ≤ it ∧ it < 200) (hs : 0 ≤ sz ∧ sz < 4000) : Sp Tryz.prog 95 [ptr B, .agg [.val (.int .i64 k), .val (.int .u64 n), roB [], .ro false 0 []], .val (.int .i64 lv)] [chkB B it sz] (IsM (.val (.bool true)) (chkB B (it + 1) (sz + 1))) := by
 have z2 : ([] : List UInt8).length = 0 := rfl
 refine Sp.enter Tryz.func95 rfl _ Tryz.ntmps95 rfl (fun w0 R0 => ?_)
 refine AW.seq ?_
 refine AW.region ?_
 refine AO.opB (O.box rfl rfl rfl rfl rfl) rfl rfl rfl ?_
 intro B1
 refine AO.op (O.assign rfl rfl) rfl rfl rfl ?_
 refine AO.nil ?_
 refine AQ.thenN ?_
 refine AW.seq ?_
 refine AW.region ?_
 refine AO.op (O.move rfl rfl) rfl rfl rfl ?_
 refine AO.op (O.nilCheck rfl rfl) rfl rfl rfl ?_
 refine AO.op (O.fieldAddr rfl rfl) rfl rfl rfl ?_
 refine AO.op (O.load rfl rfl (by repeat (first | exact List.Mem.head _ | refine List.Mem.tail _ ?_)) (by rfl)) rfl rfl rfl ?_
 refine AO.op (O.add rfl rfl rfl (by exact wI64 (by omega))) rfl rfl rfl ?_
 refine AO.op (O.nilCheck rfl rfl) rfl rfl rfl ?_
 refine AO.op (O.fieldAddr rfl rfl) rfl rfl rfl ?_
 (refine AO.store (i := 1) rfl rfl rfl rfl rfl rfl (by rfl) (by rfl) (by rfl) (by (dsimp only [List.set, List.cons_append, List.nil_append, List.take, List.drop]; done)) (by (dsimp only [List.set, List.cons_append, List.nil_append, List.take, List.drop]; done)) ?_)
 refine AO.nil ?_
 refine AQ.thenN ?_
 refine AW.seq ?_
 refine AW.seq ?_
 refine AW.region ?_
 refine AO.op (O.move rfl rfl) rfl rfl rfl ?_
 refine AO.op (O.nilCheck rfl rfl) rfl rfl rfl ?_
 refine AO.op (O.fieldAddr rfl rfl) rfl rfl rfl ?_
 refine AO.op (O.load rfl rfl (by repeat (first | exact List.Mem.head _ | refine List.Mem.tail _ ?_)) (by rfl)) rfl rfl rfl ?_
 refine AO.op (O.gtr rfl rfl rfl (by exact bFalse (by omega))) rfl rfl rfl ?_
 refine AO.op (O.move rfl rfl) rfl rfl rfl ?_
 refine AO.op (O.fieldAddr rfl rfl) rfl rfl rfl ?_
 refine AO.op (O.load rfl rfl (by repeat (exact List.Mem.head _)) (by rfl)) rfl rfl rfl ?_
 refine AO.op (O.lenR rfl rfl) rfl rfl rfl ?_
 refine AO.op (O.gtr rfl rfl rfl (by exact bFalse (by omega))) rfl rfl rfl ?_
 refine AO.op (O.pickF rfl rfl rfl) rfl rfl rfl ?_
 refine AO.op (O.move rfl rfl) rfl rfl rfl ?_
 refine AO.op (O.fieldAddr rfl rfl) rfl rfl rfl ?_
 refine AO.op (O.load rfl rfl (by repeat (exact List.Mem.head _)) (by rfl)) rfl rfl rfl ?_
 refine AO.op (O.lenR rfl rfl) rfl rfl rfl ?_
 refine AO.op (O.gtr rfl rfl rfl (by exact bFalse (by omega))) rfl rfl rfl ?_
 refine AO.op (O.pickF rfl rfl rfl) rfl rfl rfl ?_
 refine AO.nil ?_
 refine AQ.thenN ?_
 refine AW.condF rfl ?_
 refine AW.skip ?_
 refine AQ.thenN ?_
 refine AW.seq ?_
 refine AW.seq ?_
 refine AW.region ?_
 (refine AO.op (O.loadK rfl rfl (by repeat (exact List.Mem.head _)) (by (dsimp only [List.set, List.cons_append, List.nil_append, List.take, List.drop]; done)) (by rfl)) rfl rfl rfl ?_)
 refine AO.op (O.call rfl Tryz.func116 rfl rfl rfl (plainL_fn hk)) rfl rfl rfl ?_
 refine AO.op (O.move rfl rfl) rfl rfl rfl ?_
 refine AO.op (O.extract rfl rfl rfl) rfl rfl rfl ?_
 refine AO.op (O.extract rfl rfl rfl) rfl rfl rfl ?_
 refine AO.op (O.assign rfl rfl) rfl rfl rfl ?_
 refine AO.op (O.assign rfl rfl) rfl rfl rfl ?_
 refine AO.nil ?_
 refine AQ.thenN ?_
 refine AW.seq ?_
 refine AW.region ?_
 refine AO.op (O.move rfl rfl) rfl rfl rfl ?_
 refine AO.nil ?_
 refine AQ.thenN ?_
 refine AW.condT rfl ?_
 refine AW.seq ?_
 refine AW.region ?_
 refine AO.op (O.move rfl rfl) rfl rfl rfl ?_
 refine AO.op (O.move rfl rfl) rfl rfl rfl ?_
 refine AO.op (O.move rfl rfl) rfl rfl rfl ?_
 (refine AO.op (O.loadK rfl rfl (by repeat (exact List.Mem.head _)) (by (dsimp only [List.set, List.cons_append, List.nil_append, List.take, List.drop]; done)) (by rfl)) rfl rfl rfl ?_)
 (refine AO.callM1w (i := 1) rfl rfl Tryz.func117 rfl rfl rfl rfl rfl rfl (spendL_fn hk hn hs) (by (dsimp only [List.set, List.cons_append, List.nil_append, List.take, List.drop]; done)) ?_)
 refine AO.op (O.pickT rfl rfl rfl) rfl rfl rfl ?_
 refine AO.op (O.assign rfl rfl) rfl rfl rfl ?_
 refine AO.nil ?_
 refine AQ.thenN ?_
 refine AW.ret ?_
 refine AQ.thenR ?_
 refine AQ.ret1 rfl rfl ⟨_, by repeat (first | exact List.Sublist.slnil | refine List.Sublist.cons_cons _ ?_ | refine List.Sublist.cons _ ?_), List.Perm.refl _⟩ (⟨rfl, rfl⟩)
theorem chkB_fn {B : Nat} {b : List UInt8} {it sz lv : Int} (hb : b.length < 24) (hi : 0 ≤ it ∧ it < 200) (hs : 0 ≤ sz ∧ sz < 4000) : Sp Tryz.prog 95 [ptr B, .agg [.val (.int .i64 2), .val (.int .u64 0), roB b, .ro false 0 []], .val (.int .i64 lv)] [chkB B it sz] (IsM (.val (.bool true)) (chkB B (it + 1) (sz + (1 + (b.length : Int))))) := by
 refine Sp.enter Tryz.func95 rfl _ Tryz.ntmps95 rfl (fun w0 R0 => ?_)
 refine AW.seq ?_
 refine AW.region ?_
 refine AO.opB (O.box rfl rfl rfl rfl rfl) rfl rfl rfl ?_
 intro B1
 refine AO.op (O.assign rfl rfl) rfl rfl rfl ?_
 refine AO.nil ?_
 refine AQ.thenN ?_
 refine AW.seq ?_
 refine AW.region ?_
 refine AO.op (O.move rfl rfl) rfl rfl rfl ?_
 refine AO.op (O.nilCheck rfl rfl) rfl rfl rfl ?_
 refine AO.op (O.fieldAddr rfl rfl) rfl rfl rfl ?_
 refine AO.op (O.load rfl rfl (by repeat (first | exact List.Mem.head _ | refine List.Mem.tail _ ?_)) (by rfl)) rfl rfl rfl ?_
 refine AO.op (O.add rfl rfl rfl (by exact wI64 (by omega))) rfl rfl rfl ?_
 refine AO.op (O.nilCheck rfl rfl) rfl rfl rfl ?_
 refine AO.op (O.fieldAddr rfl rfl) rfl rfl rfl ?_
 (refine AO.store (i := 1) rfl rfl rfl rfl rfl rfl (by rfl) (by rfl) (by rfl) (by (dsimp only [List.set, List.cons_append, List.nil_append, List.take, List.drop]; done)) (by (dsimp only [List.set, List.cons_append, List.nil_append, List.take, List.drop]; done)) ?_)
 refine AO.nil ?_
 refine AQ.thenN ?_
 refine AW.seq ?_
 refine AW.seq ?_
 refine AW.region ?_
 refine AO.op (O.move rfl rfl) rfl rfl rfl ?_
 refine AO.op (O.nilCheck rfl rfl) rfl rfl rfl ?_
 refine AO.op (O.fieldAddr rfl rfl) rfl rfl rfl ?_
 refine AO.op (O.load rfl rfl (by repeat (first | exact List.Mem.head _ | refine List.Mem.tail _ ?_)) (by rfl)) rfl rfl rfl ?_
 refine AO.op (O.gtr rfl rfl rfl (by exact bFalse (by omega))) rfl rfl rfl ?_
 refine AO.op (O.move rfl rfl) rfl rfl rfl ?_
 refine AO.op (O.fieldAddr rfl rfl) rfl rfl rfl ?_
 refine AO.op (O.load rfl rfl (by repeat (exact List.Mem.head _)) (by rfl)) rfl rfl rfl ?_
 refine AO.op (O.lenR rfl rfl) rfl rfl rfl ?_
 refine AO.op (O.gtr rfl rfl rfl (by exact bFalse (by omega))) rfl rfl rfl ?_
 refine AO.op (O.pickF rfl rfl rfl) rfl rfl rfl ?_
 refine AO.op (O.move rfl rfl) rfl rfl rfl ?_
 refine AO.op (O.fieldAddr rfl rfl) rfl rfl rfl ?_
 refine AO.op (O.load rfl rfl (by repeat (exact List.Mem.head _)) (by rfl)) rfl rfl rfl ?_
 refine AO.op (O.lenR rfl rfl) rfl rfl rfl ?_
 refine AO.op (O.gtr rfl rfl rfl (by exact bFalse (by omega))) rfl rfl rfl ?_
 refine AO.op (O.pickF rfl rfl rfl) rfl rfl rfl ?_
 refine AO.nil ?_
 refine AQ.thenN ?_
 refine AW.condF rfl ?_
 refine AW.skip ?_
 refine AQ.thenN ?_
 refine AW.seq ?_
 refine AW.seq ?_
 refine AW.region ?_
 (refine AO.op (O.loadK rfl rfl (by repeat (exact List.Mem.head _)) (by (dsimp only [List.set, List.cons_append, List.nil_append, List.take, List.drop]; done)) (by rfl)) rfl rfl rfl ?_)
 refine AO.op (O.call rfl Tryz.func116 rfl rfl rfl (plainB_fn)) rfl rfl rfl ?_
 refine AO.op (O.move rfl rfl) rfl rfl rfl ?_
 refine AO.op (O.extract rfl rfl rfl) rfl rfl rfl ?_
 refine AO.op (O.extract rfl rfl rfl) rfl rfl rfl ?_
 refine AO.op (O.assign rfl rfl) rfl rfl rfl ?_
 refine AO.op (O.assign rfl rfl) rfl rfl rfl ?_
 refine AO.nil ?_
 refine AQ.thenN ?_
 refine AW.seq ?_
 refine AW.region ?_
 refine AO.op (O.move rfl rfl) rfl rfl rfl ?_
 refine AO.nil ?_
 refine AQ.thenN ?_
 refine AW.condT rfl ?_
 refine AW.seq ?_
 refine AW.region ?_
 refine AO.op (O.move rfl rfl) rfl rfl rfl ?_
 refine AO.op (O.move rfl rfl) rfl rfl rfl ?_
 refine AO.op (O.move rfl rfl) rfl rfl rfl ?_
 (refine AO.op (O.loadK rfl rfl (by repeat (exact List.Mem.head _)) (by (dsimp only [List.set, List.cons_append, List.nil_append, List.take, List.drop]; done)) (by rfl)) rfl rfl rfl ?_)
 (refine AO.callM1w (i := 1) rfl rfl Tryz.func117 rfl rfl rfl rfl rfl rfl (spendB_fn hb hs) (by (dsimp only [List.set, List.cons_append, List.nil_append, List.take, List.drop]; done)) ?_)
 refine AO.op (O.pickT rfl rfl rfl) rfl rfl rfl ?_
 refine AO.op (O.assign rfl rfl) rfl rfl rfl ?_
 refine AO.nil ?_
 refine AQ.thenN ?_
 refine AW.ret ?_
 refine AQ.thenR ?_
 refine AQ.ret1 rfl rfl ⟨_, by repeat (first | exact List.Sublist.slnil | refine List.Sublist.cons_cons _ ?_ | refine List.Sublist.cons _ ?_), List.Perm.refl _⟩ (⟨rfl, rfl⟩)
/-! ### Trees -/
abbrev ChkSp (B : Nat) (x : It) (lv : Int) : Prop := ∀ it sz : Int, 0 ≤ it → it + x.nodes < 200 → 0 ≤ sz → sz + x.enc.length < 4000 →
 Sp Tryz.prog 95 [ptr B, .agg x.cells, .val (.int .i64 lv)] [chkB B it sz] (IsM (.val (.bool true)) (chkB B (it + x.nodes) (sz + x.enc.length)))
theorem chk_leaf {B : Nat} {x : It} (h : leafI x) (lv : Int) : ChkSp B x lv := by
 obtain ⟨k, n, b, l⟩ := x
 intro it sz h1 h2 h3 h4
 rcases h with ⟨rfl, ⟨hk, hn, hn2, rfl⟩ | ⟨rfl, rfl, hb⟩⟩
 ·rw [enc_leaf, node_mk, nodesL] at *
  simp only [List.length_cons, List.length_nil] at h4 ⊢
  exact chkL_fn hk ⟨hn, hn2⟩ ⟨h1, by omega⟩ ⟨h3, by omega⟩
 ·rw [enc_leaf, node_mk, nodesL] at *
  simp only [List.length_cons] at h4 ⊢
  have := chkB_fn (B := B) (it := it) (sz := sz) (lv := lv) hb ⟨h1, by omega⟩ ⟨h3, by omega⟩
  rw [show sz + (1 + (b.length : Int)) = sz + ((b.length + 1 : Nat) : Int) by omega] at this
  exact this
theorem chk_arr {B : Nat} {l : List It} {lv : Int} (hlv : 0 ≤ lv ∧ lv < 8) (hm : l.length < 24) (hS : ∀ q, q < l.length → ChkSp B (itat l q) (lv + 1)) : ChkSp B (.mk 4 0 [] l) lv := by
 intro it sz h1 h2 h3 h4
 rw [enc_arr, node_mk] at *
 simp only [List.length_cons] at h4 ⊢
 have hs : 0 ≤ sz ∧ sz < 4000 := by omega
 have z2 : ([] : List UInt8).length = 0 := rfl
 show Sp Tryz.prog 95 [ptr B, .agg [.val (.int .i64 4), .val (.int .u64 0), roB [], .ro false l.length (itsA l)], .val (.int .i64 lv)] [chkB B it sz] _
 refine Sp.enter Tryz.func95 rfl _ Tryz.ntmps95 rfl (fun w0 R0 => ?_)
 refine AW.seq ?_
 refine AW.region ?_
 refine AO.opB (O.box rfl rfl rfl rfl rfl) rfl rfl rfl ?_
 intro B1
 refine AO.op (O.assign rfl rfl) rfl rfl rfl ?_
 refine AO.nil ?_
 refine AQ.thenN ?_
 refine AW.seq ?_
 refine AW.region ?_
 refine AO.op (O.move rfl rfl) rfl rfl rfl ?_
 refine AO.op (O.nilCheck rfl rfl) rfl rfl rfl ?_
 refine AO.op (O.fieldAddr rfl rfl) rfl rfl rfl ?_
 refine AO.op (O.load rfl rfl (by repeat (first | exact List.Mem.head _ | refine List.Mem.tail _ ?_)) (by rfl)) rfl rfl rfl ?_
 refine AO.op (O.add rfl rfl rfl (by exact wI64 (by omega))) rfl rfl rfl ?_
 refine AO.op (O.nilCheck rfl rfl) rfl rfl rfl ?_
 refine AO.op (O.fieldAddr rfl rfl) rfl rfl rfl ?_
 (refine AO.store (i := 1) rfl rfl rfl rfl rfl rfl (by rfl) (by rfl) (by rfl) (by (dsimp only [List.set, List.cons_append, List.nil_append, List.take, List.drop]; done)) (by (dsimp only [List.set, List.cons_append, List.nil_append, List.take, List.drop]; done)) ?_)
 refine AO.nil ?_
 refine AQ.thenN ?_
 refine AW.seq ?_
 refine AW.seq ?_
 refine AW.region ?_
 refine AO.op (O.move rfl rfl) rfl rfl rfl ?_
 refine AO.op (O.nilCheck rfl rfl) rfl rfl rfl ?_
 refine AO.op (O.fieldAddr rfl rfl) rfl rfl rfl ?_
 refine AO.op (O.load rfl rfl (by repeat (first | exact List.Mem.head _ | refine List.Mem.tail _ ?_)) (by rfl)) rfl rfl rfl ?_
 refine AO.op (O.gtr rfl rfl rfl (by exact bFalse (by omega))) rfl rfl rfl ?_
 refine AO.op (O.move rfl rfl) rfl rfl rfl ?_
 refine AO.op (O.fieldAddr rfl rfl) rfl rfl rfl ?_
 refine AO.op (O.load rfl rfl (by repeat (exact List.Mem.head _)) (by rfl)) rfl rfl rfl ?_
 refine AO.op (O.lenR rfl rfl) rfl rfl rfl ?_
 refine AO.op (O.gtr rfl rfl rfl (by exact bFalse (by omega))) rfl rfl rfl ?_
 refine AO.op (O.pickF rfl rfl rfl) rfl rfl rfl ?_
 refine AO.op (O.move rfl rfl) rfl rfl rfl ?_
 refine AO.op (O.fieldAddr rfl rfl) rfl rfl rfl ?_
 refine AO.op (O.load rfl rfl (by repeat (exact List.Mem.head _)) (by rfl)) rfl rfl rfl ?_
 refine AO.op (O.lenR rfl rfl) rfl rfl rfl ?_
 refine AO.op (O.gtr rfl rfl rfl (by exact bFalse (by omega))) rfl rfl rfl ?_
 refine AO.op (O.pickF rfl rfl rfl) rfl rfl rfl ?_
 refine AO.nil ?_
 refine AQ.thenN ?_
 refine AW.condF rfl ?_
 refine AW.skip ?_
 refine AQ.thenN ?_
 refine AW.seq ?_
 refine AW.seq ?_
 refine AW.region ?_
 (refine AO.op (O.loadK rfl rfl (by repeat (exact List.Mem.head _)) (by (dsimp only [List.set, List.cons_append, List.nil_append, List.take, List.drop]; done)) (by rfl)) rfl rfl rfl ?_)
 refine AO.op (O.call rfl Tryz.func116 rfl rfl rfl (plainA_fn)) rfl rfl rfl ?_
 refine AO.op (O.move rfl rfl) rfl rfl rfl ?_
 refine AO.op (O.extract rfl rfl rfl) rfl rfl rfl ?_
 refine AO.op (O.extract rfl rfl rfl) rfl rfl rfl ?_
 refine AO.op (O.assign rfl rfl) rfl rfl rfl ?_
 refine AO.op (O.assign rfl rfl) rfl rfl rfl ?_
 refine AO.nil ?_
 refine AQ.thenN ?_
 refine AW.seq ?_
 refine AW.region ?_
 refine AO.op (O.move rfl rfl) rfl rfl rfl ?_
 refine AO.nil ?_
 refine AQ.thenN ?_
 refine AW.condF rfl ?_
 refine AW.skip ?_
 refine AQ.thenN ?_
 refine AW.seq ?_
 refine AW.seq ?_
 refine AW.region ?_
 refine AO.op (O.fieldAddr rfl rfl) rfl rfl rfl ?_
 refine AO.op (O.load rfl rfl (by repeat (exact List.Mem.head _)) (by rfl)) rfl rfl rfl ?_
 refine AO.op (O.lss rfl rfl rfl (by exact bFalse (by omega))) rfl rfl rfl ?_
 refine AO.op (O.move rfl rfl) rfl rfl rfl ?_
 refine AO.op (O.fieldAddr rfl rfl) rfl rfl rfl ?_
 refine AO.op (O.load rfl rfl (by repeat (exact List.Mem.head _)) (by rfl)) rfl rfl rfl ?_
 refine AO.op (O.gtr rfl rfl rfl (by exact bFalse (by omega))) rfl rfl rfl ?_
 refine AO.op (O.pickF rfl rfl rfl) rfl rfl rfl ?_
 refine AO.op (O.move rfl rfl) rfl rfl rfl ?_
 refine AO.op (O.move rfl rfl) rfl rfl rfl ?_
 refine AO.op (O.geq rfl rfl rfl (by exact bFalse (by omega))) rfl rfl rfl ?_
 refine AO.op (O.pickF rfl rfl rfl) rfl rfl rfl ?_
 refine AO.op (O.move rfl rfl) rfl rfl rfl ?_
 refine AO.op (O.fieldAddr rfl rfl) rfl rfl rfl ?_
 refine AO.op (O.load rfl rfl (by repeat (exact List.Mem.head _)) (by rfl)) rfl rfl rfl ?_
 refine AO.op (O.lenR rfl rfl) rfl rfl rfl ?_
 refine AO.op (O.gtr rfl rfl rfl (by exact bFalse (by omega))) rfl rfl rfl ?_
 refine AO.op (O.pickF rfl rfl rfl) rfl rfl rfl ?_
 refine AO.nil ?_
 refine AQ.thenN ?_
 refine AW.condF rfl ?_
 refine AW.skip ?_
 refine AQ.thenN ?_
 refine AW.seq ?_
 refine AW.seq ?_
 refine AW.region ?_
 refine AO.op (O.fieldAddr rfl rfl) rfl rfl rfl ?_
 refine AO.op (O.load rfl rfl (by repeat (exact List.Mem.head _)) (by rfl)) rfl rfl rfl ?_
 refine AO.op (O.eql rfl rfl rfl (by exact beq_eq_false_iff_ne.2 (by omega))) rfl rfl rfl ?_
 refine AO.op (O.move rfl rfl) rfl rfl rfl ?_
 refine AO.no rfl rfl rfl ?_
 refine AO.no rfl rfl rfl ?_
 refine AO.no rfl rfl rfl ?_
 refine AO.no rfl rfl rfl ?_
 refine AO.op (O.pickF rfl rfl rfl) rfl rfl rfl ?_
 refine AO.op (O.move rfl rfl) rfl rfl rfl ?_
 refine AO.op (O.fieldAddr rfl rfl) rfl rfl rfl ?_
 refine AO.op (O.load rfl rfl (by repeat (exact List.Mem.head _)) (by rfl)) rfl rfl rfl ?_
 refine AO.op (O.neq rfl rfl rfl (by exact bne_iff_ne.2 (by omega))) rfl rfl rfl ?_
 refine AO.op (O.move rfl rfl) rfl rfl rfl ?_
 refine AO.op (O.fieldAddr rfl rfl) rfl rfl rfl ?_
 refine AO.op (O.load rfl rfl (by repeat (exact List.Mem.head _)) (by rfl)) rfl rfl rfl ?_
 refine AO.op (O.neq rfl rfl rfl (by exact bne_eq_false_iff_eq.2 (by omega))) rfl rfl rfl ?_
 refine AO.op (O.pickT rfl rfl rfl) rfl rfl rfl ?_
 refine AO.op (O.pickF rfl rfl rfl) rfl rfl rfl ?_
 refine AO.op (O.move rfl rfl) rfl rfl rfl ?_
 refine AO.op (O.fieldAddr rfl rfl) rfl rfl rfl ?_
 refine AO.op (O.load rfl rfl (by repeat (exact List.Mem.head _)) (by rfl)) rfl rfl rfl ?_
 refine AO.op (O.eql rfl rfl rfl (by exact beq_eq_false_iff_ne.2 (by omega))) rfl rfl rfl ?_
 refine AO.op (O.move rfl rfl) rfl rfl rfl ?_
 refine AO.no rfl rfl rfl ?_
 refine AO.no rfl rfl rfl ?_
 refine AO.no rfl rfl rfl ?_
 refine AO.no rfl rfl rfl ?_
 refine AO.no rfl rfl rfl ?_
 refine AO.op (O.pickF rfl rfl rfl) rfl rfl rfl ?_
 refine AO.op (O.pickF rfl rfl rfl) rfl rfl rfl ?_
 refine AO.nil ?_
 refine AQ.thenN ?_
 refine AW.condF rfl ?_
 refine AW.skip ?_
 refine AQ.thenN ?_
 refine AW.seq ?_
 refine AW.seq ?_
 refine AW.region ?_
 refine AO.op (O.move rfl rfl) rfl rfl rfl ?_
 (refine AO.op (O.loadK rfl rfl (by repeat (exact List.Mem.head _)) (by (dsimp only [List.set, List.cons_append, List.nil_append, List.take, List.drop]; done)) (by rfl)) rfl rfl rfl ?_)
 (refine AO.callM1 (i := 1) rfl rfl Tryz.func117 rfl rfl rfl rfl rfl rfl (spendA_fn hm hs) (by (dsimp only [List.set, List.cons_append, List.nil_append, List.take, List.drop]; done)) ?_)
 refine AO.op (O.not rfl rfl (by rfl)) rfl rfl rfl ?_
 refine AO.nil ?_
 refine AQ.thenN ?_
 refine AW.condF rfl ?_
 refine AW.skip ?_
 refine AQ.thenN ?_
 refine AW.seq ?_
 refine AW.seq ?_
 refine AW.region ?_
 refine AO.op (O.fieldAddr rfl rfl) rfl rfl rfl ?_
 refine AO.op (O.load rfl rfl (by repeat (exact List.Mem.head _)) (by rfl)) rfl rfl rfl ?_
 refine AO.op (O.lenR rfl rfl) rfl rfl rfl ?_
 refine AO.op (O.move rfl rfl) rfl rfl rfl ?_
 refine AO.nil ?_
 refine AQ.thenN ?_
 refine AW.block ?_
 have hnl : ∀ k, k ≤ l.length → nodesL (l.take k) ≤ nodesL l ∧ (encIs (l.take k)).length ≤ (encIs l).length := fun k hk => by
  have h5 := nodesL_app (l.take k) (l.drop k)
  have h6 := congrArg List.length (encIs_app (l.take k) (l.drop k))
  rw [List.take_append_drop] at h5 h6
  rw [List.length_append] at h6
  omega
 refine AW.loopK [(0, _), (2, _), (4, _), (101, _), (102, _)] (fun nn E H => ∃ (k : Nat) (u v : Int), (k ≤ l.length) ∧ (u = it + 1 + (nodesL (l.take k) : Nat)) ∧ (v = sz + 1 + ((encIs (l.take k)).length : Nat)) ∧ nn = l.length - k ∧ E = [(103, .val (.int .i64 (k : Int)))] ∧ H = [.blk B1 100 4 [.val (.int .i64 4), .val (.int .u64 0), roB [], .ro false l.length (itsA l)], chkB B u v]) _ (⟨0, it + 1, sz + 1, by omega, (by simp [nodesL]), (by simp [encIs]), rfl, rfl, rfl⟩) (by repeat (first | exact envNil | refine envCons rfl ?_)) (by repeat (first | exact envNil | refine envCons rfl ?_)) (by repeat (first | exact subPnil | refine subPcons 0 rfl ?_)) ?_
 rintro nn E H ⟨k, u, v, hk, hu, hv, rfl, rfl, rfl⟩
 dsimp only [List.cons_append, List.nil_append]
 refine AW.seq ?_
 refine AW.region ?_
 refine AO.op (O.lss rfl rfl rfl (by rfl)) rfl rfl rfl ?_
 refine AO.nil ?_
 refine AQ.thenN ?_
 refine AW.seq ?_
 refine AW.split rfl (fun hlt => ?_) (fun hlt => ?_) <;> (try simp only [decide_eq_true_eq, decide_eq_false_iff_not, beq_iff_eq, beq_eq_false_iff_ne, bne_iff_ne, bne_eq_false_iff_eq, Bool.not_eq_true', Bool.not_eq_false', Bool.not_eq_true, Bool.not_eq_false, ne_eq, Int.not_lt, Int.not_le, Bool.and_eq_true, Bool.or_eq_true, Bool.or_eq_false_iff, Bool.and_eq_false_imp, strOf_toList, Decidable.not_not] at hlt)
 ·skip
  have hkl : k < l.length := by omega
  obtain ⟨kk, nn', bb, ll, hx⟩ : ∃ kk nn' bb ll, itat l k = .mk kk nn' bb ll := by cases h : itat l k; exact ⟨_, _, _, _, rfl⟩
  have hg : ((itsA l).drop (Int.toNat (k : Int) * 4)).take 4 = [.val (.int .i64 kk), .val (.int .u64 nn'), roB bb, .ro false ll.length (itsA ll)] := by
   rw [getIt hkl (by omega), hx, It.cells]
  have hSk := hS k hkl
  rw [hx] at hSk
  unfold ChkSp at hSk
  rw [It.cells] at hSk
  have hsn := take_snoc itN hkl
  have e1 := nodesL_snoc (l.take k) (itat l k)
  have e2 := congrArg List.length (encIs_snoc (l.take k) (itat l k))
  rw [← hsn, hx] at e1 e2
  rw [List.length_append] at e2
  have h5 := hnl (k + 1) (by omega)
  refine AW.skip ?_
  refine AQ.thenN ?_
  refine AW.seq ?_
  refine AW.block ?_
  refine AW.seq ?_
  refine AW.region ?_
  refine AO.op (O.idxR rfl rfl rfl ⟨(by omega), (by omega)⟩) rfl rfl rfl ?_
  refine AO.op (O.loadRK rfl rfl (by exact hg) (by rfl)) rfl rfl rfl ?_
  refine AO.opB (O.alloc rfl (by (dsimp only [zerosA, List.replicate, List.append, List.flatten, AV.cells, Value.cells, List.toList_toArray, List.map]; done)) (by rfl)) rfl rfl rfl ?_
  intro B2
  (refine AO.store (i := 0) rfl rfl rfl rfl rfl rfl (by rfl) (by rfl) (by rfl) (by (dsimp only [List.set, List.cons_append, List.nil_append, List.take, List.drop]; done)) (by (dsimp only [List.set, List.cons_append, List.nil_append, List.take, List.drop]; done)) ?_)
  refine AO.nil ?_
  refine AQ.thenN ?_
  refine AW.seq ?_
  refine AW.region ?_
  refine AO.op (O.move rfl rfl) rfl rfl rfl ?_
  refine AO.op (O.loadK rfl rfl (by repeat (exact List.Mem.head _)) (by rfl) (by rfl)) rfl rfl rfl ?_
  refine AO.op (O.move rfl rfl) rfl rfl rfl ?_
  refine AO.op (O.add rfl rfl rfl (by exact wI64 (by omega))) rfl rfl rfl ?_
  (refine AO.callM1 (i := 2) rfl rfl Tryz.func95 rfl rfl rfl rfl rfl rfl (hSk _ _ (by omega) (by omega) (by omega) (by omega)) (by (dsimp only [List.set, List.cons_append, List.nil_append, List.take, List.drop]; done)) ?_)
  refine AO.op (O.not rfl rfl (by rfl)) rfl rfl rfl ?_
  refine AO.nil ?_
  refine AQ.thenN ?_
  refine AW.condF rfl ?_
  refine AW.skip ?_
  refine AQ.blockN ?_
  refine AQ.thenN ?_
  refine AW.region ?_
  refine AO.op (O.add rfl rfl rfl (by exact wI64 (by omega))) rfl rfl rfl ?_
  refine AO.op (O.move rfl rfl) rfl rfl rfl ?_
  refine AO.nil ?_
  refine AQ.loopKN _ _ _ (by omega) (⟨k + 1, u + (It.mk kk nn' bb ll).nodes, v + (It.mk kk nn' bb ll).enc.length, by omega, (by omega), (by omega), rfl, rfl, rfl⟩) (by repeat (first | exact envNil | refine envCons rfl ?_)) (by repeat (first | exact envNil | refine envCons rfl ?_)) (by repeat (first | exact subPnil | refine subPcons 1 rfl ?_))
 ·skip
  obtain rfl : k = l.length := by omega
  rw [List.take_length] at hu hv
  obtain rfl : u = it + ((1 + nodesL l : Nat) : Int) := by omega
  obtain rfl : v = sz + (((encIs l).length + 1 : Nat) : Int) := by omega
  refine AW.exit ?_
  refine AQ.thenX ?_
  refine AQ.loopX ?_
  refine AQ.blockX rfl ?_
  refine AQ.thenN ?_
  refine AW.seq ?_
  refine AW.region ?_
  refine AO.op (O.fieldAddr rfl rfl) rfl rfl rfl ?_
  refine AO.op (O.load rfl rfl (by repeat (exact List.Mem.head _)) (by rfl)) rfl rfl rfl ?_
  refine AO.op (O.neq rfl rfl rfl (by exact bne_iff_ne.2 (by omega))) rfl rfl rfl ?_
  refine AO.op (O.move rfl rfl) rfl rfl rfl ?_
  refine AO.no rfl rfl rfl ?_
  refine AO.no rfl rfl rfl ?_
  refine AO.no rfl rfl rfl ?_
  refine AO.op (O.pickT rfl rfl rfl) rfl rfl rfl ?_
  refine AO.op (O.assign rfl rfl) rfl rfl rfl ?_
  refine AO.nil ?_
  refine AQ.thenN ?_
  refine AW.ret ?_
  refine AQ.ret1 rfl rfl ⟨_, by repeat (first | exact List.Sublist.slnil | refine List.Sublist.cons_cons _ ?_ | refine List.Sublist.cons _ ?_), List.Perm.refl _⟩ (⟨rfl, rfl⟩)
theorem chk_fn : ∀ (d : Nat) (x : It) (B : Nat) (lv : Int), x.ok d → 0 ≤ lv → lv + d ≤ 8 → ChkSp B x lv
 | 0, x, B, lv, h, _, _ => chk_leaf h lv
 | d + 1, .mk k n b l, B, lv, h, h1, h2 => by
  rcases h with h | ⟨rfl, rfl, rfl, h4, h5⟩
  ·exact chk_leaf h lv
  ·exact chk_arr ⟨h1, by omega⟩ h4 fun q hq => chk_fn d _ B (lv + 1) (h5 _ (getD_mem itN hq)) (by omega) (by omega)
theorem cvalid_fn (d : Nat) (x : It) (hx : x.ok d) (hd : d ≤ 8) (h1 : x.nodes < 200) (h2 : x.enc.length < 4000) : Sp Tryz.prog 77 [.agg x.cells] [] (Is (.val (.bool true))) := by
 obtain ⟨xs, hxs⟩ : ∃ xs, xs = x.cells := ⟨_, rfl⟩
 have hl : xs.length = 4 := by rw [hxs]; exact cells_len x
 have hS := chk_fn d x
 obtain ⟨k, n, b, l⟩ := x
 rw [It.cells]
 refine Sp.enter Tryz.func77 rfl _ Tryz.ntmps77 rfl (fun w0 R0 => ?_)
 refine AW.seq ?_
 refine AW.region ?_
 refine AO.opB (O.box rfl rfl rfl rfl rfl) rfl rfl rfl ?_
 intro B1
 refine AO.op (O.assign rfl rfl) rfl rfl rfl ?_
 refine AO.nil ?_
 refine AQ.thenN ?_
 refine AW.seq ?_
 refine AW.region ?_
 refine AO.opB (O.alloc rfl (by (dsimp only [zerosA, List.replicate, List.append, List.flatten, AV.cells, Value.cells, List.toList_toArray, List.map]; done)) (by rfl)) rfl rfl rfl ?_
 intro B2
 refine AO.nil ?_
 refine AQ.thenN ?_
 refine AW.seq ?_
 refine AW.region ?_
 refine AO.op (O.loadK rfl rfl (by repeat (first | exact List.Mem.head _ | refine List.Mem.tail _ ?_)) (by rfl) (by rfl)) rfl rfl rfl ?_
 (refine AO.callM1 (i := 0) rfl rfl Tryz.func95 rfl rfl rfl rfl rfl rfl (hS _ 0 hx (by omega) (by omega) 0 0 (by omega) (by omega) (by omega) (by omega)) (by (dsimp only [List.set, List.cons_append, List.nil_append, List.take, List.drop]; done)) ?_)
 refine AO.op (O.assign rfl rfl) rfl rfl rfl ?_
 refine AO.nil ?_
 refine AQ.thenN ?_
 refine AW.ret ?_
 refine AQ.ret1 rfl rfl ⟨_, List.nil_sublist _, .nil⟩ (⟨rfl, rfl⟩)
end Go.Proofs.YtoonnnifelnaiaaGreatDoor.By

namespace Go.Proofs.YtoonnnifelnaiaaGreatDoor.By
open Go.RowKit L A Dk
set_option linter.unusedVariables false
set_option maxRecDepth 20000
set_option linter.unusedSimpArgs false
attribute [local irreducible] AW AQ AO
theorem validN_fn : Sp Tryz.prog 77 [itA 1 2 [] 0 []] [] (Is (.val (.bool true))) := by
 have h := cvalid_fn 0 (.mk 1 2 [] []) ⟨rfl, .inl ⟨.inr rfl, by omega, by omega, rfl⟩⟩ (by omega) (by rw [node_mk]; simp [nodesL]) (by rw [enc_leaf]; simp)
 rw [It.cells, itsA] at h
 exact h
theorem validA_fn : Sp Tryz.prog 77 [itA 4 0 [] 1 (uintR 1)] [] (Is (.val (.bool true))) := by
 have hl : leafI (.mk 0 1 [] []) := ⟨rfl, .inl ⟨.inl rfl, by omega, by omega, rfl⟩⟩
 have h := cvalid_fn 1 (.mk 4 0 [] [.mk 0 1 [] []]) (.inr ⟨rfl, rfl, rfl, by simp, fun y hy => by obtain rfl := List.mem_singleton.1 hy; exact hl⟩) (by omega) (by simp [It.nodes, nodesL]) (by simp [It.enc, encIs])
 simp only [It.cells, itsA, List.append_nil, List.length_cons, List.length_nil] at h
 exact h
theorem uint_fn (n : Int) : Sp Tryz.prog 79 [.val (.int .u64 n)] [] (Is (itA 0 n [] 0 [])) := by
 refine Sp.enter Tryz.func79 rfl _ Tryz.ntmps79 rfl (fun w0 R0 => ?_)
 refine AW.seq ?_
 refine AW.region ?_
 refine AO.opB (O.alloc rfl (by (dsimp only [zerosA, List.replicate, List.append, List.flatten, AV.cells, Value.cells, List.toList_toArray, List.map]; done)) (by rfl)) rfl rfl rfl ?_
 intro B1
 refine AO.nil ?_
 refine AQ.thenN ?_
 refine AW.seq ?_
 refine AW.region ?_
 refine AO.op (O.move rfl rfl) rfl rfl rfl ?_
 refine AO.op (O.build rfl rfl rfl (by rfl)) rfl rfl rfl ?_
 (refine AO.store (i := 0) rfl rfl rfl rfl rfl rfl (by rfl) (by rfl) (by rfl) (by (dsimp only [List.set, List.cons_append, List.nil_append, List.take, List.drop]; done)) (by (dsimp only [List.set, List.cons_append, List.nil_append, List.take, List.drop]; done)) ?_)
 refine AO.nil ?_
 refine AQ.thenN ?_
 refine AW.ret ?_
 refine FnQ.coe (AQ.retCell rfl rfl (by repeat (exact List.Mem.head _)) (by (dsimp only [List.set, List.cons_append, List.nil_append, List.take, List.drop]; done)) (by rfl) ⟨_, List.nil_sublist _, .nil⟩ ⟨rfl, rfl⟩) (Coe.agg (by (repeat (first | exact CoeL.nil | refine CoeL.cons Coe.rfl ?_ | refine CoeL.cons Coe.nil ?_)); done)) (⟨rfl, rfl⟩)
theorem intP_fn (n : Int) (hn : 0 ≤ n ∧ n < 1000) : Sp Tryz.prog 37 [.val (.int .i64 n)] [] (Is (itA 0 n [] 0 [])) := by
 refine Sp.enter Tryz.func37 rfl _ Tryz.ntmps37 rfl (fun w0 R0 => ?_)
 refine AW.seq ?_
 refine AW.region ?_
 refine AO.opB (O.alloc rfl (by (dsimp only [zerosA, List.replicate, List.append, List.flatten, AV.cells, Value.cells, List.toList_toArray, List.map]; done)) (by rfl)) rfl rfl rfl ?_
 intro B1
 refine AO.nil ?_
 refine AQ.thenN ?_
 refine AW.seq ?_
 refine AW.seq ?_
 refine AW.region ?_
 refine AO.op (O.move rfl rfl) rfl rfl rfl ?_
 refine AO.op (O.lss rfl rfl rfl (by exact bFalse (by omega))) rfl rfl rfl ?_
 refine AO.nil ?_
 refine AQ.thenN ?_
 refine AW.condF rfl ?_
 refine AW.skip ?_
 refine AQ.thenN ?_
 refine AW.seq ?_
 refine AW.region ?_
 refine AO.op (O.move rfl rfl) rfl rfl rfl ?_
 refine AO.op (O.conv rfl rfl (by exact wU64 (by omega))) rfl rfl rfl ?_
 refine AO.op (O.call rfl Tryz.func79 rfl rfl rfl (uint_fn n)) rfl rfl rfl ?_
 (refine AO.store (i := 0) rfl rfl rfl rfl rfl rfl (by rfl) (by rfl) (by rfl) (by (dsimp only [List.set, List.cons_append, List.nil_append, List.take, List.drop]; done)) (by (dsimp only [List.set, List.cons_append, List.nil_append, List.take, List.drop]; done)) ?_)
 refine AO.nil ?_
 refine AQ.thenN ?_
 refine AW.ret ?_
 refine FnQ.coe (AQ.retCell rfl rfl (by repeat (exact List.Mem.head _)) (by (dsimp only [List.set, List.cons_append, List.nil_append, List.take, List.drop]; done)) (by rfl) ⟨_, List.nil_sublist _, .nil⟩ ⟨rfl, rfl⟩) (Coe.agg (by (repeat (first | exact CoeL.nil | refine CoeL.cons Coe.rfl ?_)); done)) (⟨rfl, rfl⟩)
theorem intN_fn : Sp Tryz.prog 37 [.val (.int .i64 (-3))] [] (Is (itA 1 2 [] 0 [])) := by
 refine Sp.enter Tryz.func37 rfl _ Tryz.ntmps37 rfl (fun w0 R0 => ?_)
 refine AW.seq ?_
 refine AW.region ?_
 refine AO.opB (O.alloc rfl (by (dsimp only [zerosA, List.replicate, List.append, List.flatten, AV.cells, Value.cells, List.toList_toArray, List.map]; done)) (by rfl)) rfl rfl rfl ?_
 intro B1
 refine AO.nil ?_
 refine AQ.thenN ?_
 refine AW.seq ?_
 refine AW.seq ?_
 refine AW.region ?_
 refine AO.op (O.move rfl rfl) rfl rfl rfl ?_
 refine AO.op (O.lss rfl rfl rfl (by exact bTrue (by omega))) rfl rfl rfl ?_
 refine AO.nil ?_
 refine AQ.thenN ?_
 refine AW.condT rfl ?_
 refine AW.seq ?_
 refine AW.region ?_
 refine AO.op (O.move rfl rfl) rfl rfl rfl ?_
 refine AO.op (O.sub rfl rfl rfl (by exact wI64 (by omega))) rfl rfl rfl ?_
 refine AO.op (O.conv rfl rfl (by exact wU64 (by omega))) rfl rfl rfl ?_
 refine AO.op (O.build rfl rfl rfl (by rfl)) rfl rfl rfl ?_
 (refine AO.store (i := 0) rfl rfl rfl rfl rfl rfl (by rfl) (by rfl) (by rfl) (by (dsimp only [List.set, List.cons_append, List.nil_append, List.take, List.drop]; done)) (by (dsimp only [List.set, List.cons_append, List.nil_append, List.take, List.drop]; done)) ?_)
 refine AO.nil ?_
 refine AQ.thenN ?_
 refine AW.ret ?_
 refine AQ.thenR ?_
 refine FnQ.coe (AQ.retCell rfl rfl (by repeat (exact List.Mem.head _)) (by (dsimp only [List.set, List.cons_append, List.nil_append, List.take, List.drop]; done)) (by rfl) ⟨_, List.nil_sublist _, .nil⟩ ⟨rfl, rfl⟩) (Coe.agg (by (repeat (first | exact CoeL.nil | refine CoeL.cons Coe.rfl ?_ | refine CoeL.cons Coe.nil ?_)); done)) (⟨rfl, rfl⟩)
theorem print_fn : Sp Tryz.prog 36 [itA 1 2 [] 0 []] [] (Is (.tup [.val (.string ⟨#[45, 51]⟩), .val (.int .i64 0)])) := by
 refine Sp.enter Tryz.func36 rfl _ Tryz.ntmps36 rfl (fun w0 R0 => ?_)
 refine AW.seq ?_
 refine AW.region ?_
 refine AO.opB (O.box rfl rfl rfl rfl rfl) rfl rfl rfl ?_
 intro B1
 refine AO.op (O.assign rfl rfl) rfl rfl rfl ?_
 refine AO.op (O.assign rfl rfl) rfl rfl rfl ?_
 refine AO.nil ?_
 refine AQ.thenN ?_
 refine AW.seq ?_
 refine AW.seq ?_
 refine AW.region ?_
 (refine AO.op (O.loadK rfl rfl (by repeat (exact List.Mem.head _)) (by (dsimp only [List.set, List.cons_append, List.nil_append, List.take, List.drop]; done)) (by rfl)) rfl rfl rfl ?_)
 refine AO.op (O.call rfl Tryz.func77 rfl rfl rfl (validN_fn)) rfl rfl rfl ?_
 refine AO.op (O.not rfl rfl (by rfl)) rfl rfl rfl ?_
 refine AO.nil ?_
 refine AQ.thenN ?_
 refine AW.condF rfl ?_
 refine AW.skip ?_
 refine AQ.thenN ?_
 refine AW.seq ?_
 refine AW.region ?_
 (refine AO.op (O.loadK rfl rfl (by repeat (exact List.Mem.head _)) (by (dsimp only [List.set, List.cons_append, List.nil_append, List.take, List.drop]; done)) (by rfl)) rfl rfl rfl ?_)
 refine AO.op (O.call rfl Tryz.func78 rfl rfl rfl (putN_fn)) rfl rfl rfl ?_
 refine AO.op (O.convS rfl rfl (by rfl)) rfl rfl rfl ?_
 refine AO.op (O.assign rfl rfl) rfl rfl rfl ?_
 refine AO.op (O.assign rfl rfl) rfl rfl rfl ?_
 refine AO.nil ?_
 refine AQ.thenN ?_
 refine AW.ret ?_
 refine AQ.ret2 rfl rfl rfl ⟨_, List.nil_sublist _, .nil⟩ (⟨rfl, rfl⟩)
theorem parse_fn : SpK GN Tryz.prog 38 [.val (.string ⟨#[91, 49, 93]⟩)] [] (Is (.tup [itA 4 0 [] 1 (uintR 1), .val (.int .i64 0)])) := by
 have q1 : ((⟨#[]⟩ : ByteArray).toList != (⟨#[]⟩ : ByteArray).toList) = false := by decide +kernel
 have q2 : ((strOf [91, 49, 93]).toList != (⟨#[91, 49, 93]⟩ : ByteArray).toList) = false := by decide +kernel
 refine SpK.enter Tryz.func38 rfl _ Tryz.ntmps38 rfl (fun w0 R0 hK => ?_)
 refine AW.seq ?_
 refine AW.region ?_
 refine AO.opB (O.alloc rfl (by (dsimp only [zerosA, List.replicate, List.append, List.flatten, AV.cells, Value.cells, List.toList_toArray, List.map]; done)) (by rfl)) rfl rfl rfl ?_
 intro B1
 refine AO.op (O.assign rfl rfl) rfl rfl rfl ?_
 refine AO.nil ?_
 refine AQ.thenN ?_
 refine AW.seq ?_
 refine AW.region ?_
 refine AO.op (O.move rfl rfl) rfl rfl rfl ?_
 refine AO.op (O.build rfl rfl rfl (by rfl)) rfl rfl rfl ?_
 refine AO.opB (O.alloc rfl (by (dsimp only [zerosA, List.replicate, List.append, List.flatten, AV.cells, Value.cells, List.toList_toArray, List.map]; done)) (by rfl)) rfl rfl rfl ?_
 intro B2
 (refine AO.store (i := 0) rfl rfl rfl rfl rfl rfl (by rfl) (by rfl) (by rfl) (by (dsimp only [List.set, List.cons_append, List.nil_append, List.take, List.drop]; done)) (by (dsimp only [List.set, List.cons_append, List.nil_append, List.take, List.drop]; done)) ?_)
 refine AO.nil ?_
 refine AQ.thenN ?_
 refine AW.seq ?_
 refine AW.region ?_
 (refine AO.callK1n (i := 0) hK notFoot_nil rfl rfl Tryz.func80 rfl rfl rfl rfl rfl rfl (fun hB => item0_fn _ hB) (by (dsimp only [List.set, List.cons_append, List.nil_append, List.take, List.drop]; done)) ?_)
 refine AO.opB (O.alloc rfl (by (dsimp only [zerosA, List.replicate, List.append, List.flatten, AV.cells, Value.cells, List.toList_toArray, List.map]; done)) (by rfl)) rfl rfl rfl ?_
 intro B3
 (refine AO.store (i := 0) rfl rfl rfl rfl rfl rfl (by rfl) (by rfl) (by rfl) (by (dsimp only [List.set, List.cons_append, List.nil_append, List.take, List.drop]; done)) (by (dsimp only [List.set, List.cons_append, List.nil_append, List.take, List.drop]; done)) ?_)
 refine AO.nil ?_
 refine AQ.thenN ?_
 refine AW.seq ?_
 refine AW.seq ?_
 refine AW.region ?_
 refine AO.op (O.fieldAddr rfl rfl) rfl rfl rfl ?_
 refine AO.op (O.load rfl rfl (by repeat (first | exact List.Mem.head _ | refine List.Mem.tail _ ?_)) (by rfl)) rfl rfl rfl ?_
 refine AO.op (O.move rfl rfl) rfl rfl rfl ?_
 refine AO.op (O.fieldAddr rfl rfl) rfl rfl rfl ?_
 refine AO.op (O.load rfl rfl (by repeat (first | exact List.Mem.head _ | refine List.Mem.tail _ ?_)) (by rfl)) rfl rfl rfl ?_
 refine AO.op (O.neqS rfl rfl rfl (by assumption)) rfl rfl rfl ?_
 refine AO.op (O.pickF rfl rfl rfl) rfl rfl rfl ?_
 refine AO.op (O.move rfl rfl) rfl rfl rfl ?_
 (refine AO.op (O.loadK rfl rfl (by repeat (exact List.Mem.head _)) (by (dsimp only [List.set, List.cons_append, List.nil_append, List.take, List.drop]; done)) (by rfl)) rfl rfl rfl ?_)
 (refine AO.op (O.callC rfl Tryz.func77 rfl rfl rfl (validA_fn) (by (repeat (first | exact CoeL.nil | refine CoeL.cons Coe.rfl ?_ | refine CoeL.cons Coe.nil ?_ | refine CoeL.cons (Coe.agg ?_) ?_ | refine CoeL.cons (Coe.ro ?_) ?_)); done)) rfl rfl rfl ?_)
 refine AO.op (O.not rfl rfl (by rfl)) rfl rfl rfl ?_
 refine AO.op (O.pickF rfl rfl rfl) rfl rfl rfl ?_
 refine AO.nil ?_
 refine AQ.thenN ?_
 refine AW.condF rfl ?_
 refine AW.skip ?_
 refine AQ.thenN ?_
 refine AW.seq ?_
 refine AW.seq ?_
 refine AW.region ?_
 (refine AO.op (O.loadK rfl rfl (by repeat (exact List.Mem.head _)) (by (dsimp only [List.set, List.cons_append, List.nil_append, List.take, List.drop]; done)) (by rfl)) rfl rfl rfl ?_)
 (refine AO.op (O.callC rfl Tryz.func78 rfl rfl rfl (putA_fn) (by (repeat (first | exact CoeL.nil | refine CoeL.cons Coe.rfl ?_ | refine CoeL.cons Coe.nil ?_ | refine CoeL.cons (Coe.agg ?_) ?_ | refine CoeL.cons (Coe.ro ?_) ?_)); done)) rfl rfl rfl ?_)
 refine AO.op (O.convS rfl rfl (by rfl)) rfl rfl rfl ?_
 refine AO.op (O.move rfl rfl) rfl rfl rfl ?_
 refine AO.op (O.neqS rfl rfl rfl (by assumption)) rfl rfl rfl ?_
 refine AO.nil ?_
 refine AQ.thenN ?_
 refine AW.condF rfl ?_
 refine AW.skip ?_
 refine AQ.thenN ?_
 refine AW.seq ?_
 refine AW.region ?_
 (refine AO.op (O.loadK rfl rfl (by repeat (exact List.Mem.head _)) (by (dsimp only [List.set, List.cons_append, List.nil_append, List.take, List.drop]; done)) (by rfl)) rfl rfl rfl ?_)
 (refine AO.store (i := 2) rfl rfl rfl rfl rfl rfl (by rfl) (by rfl) (by rfl) (by (dsimp only [List.set, List.cons_append, List.nil_append, List.take, List.drop]; done)) (by (dsimp only [List.set, List.cons_append, List.nil_append, List.take, List.drop]; done)) ?_)
 refine AO.op (O.assign rfl rfl) rfl rfl rfl ?_
 refine AO.nil ?_
 refine AQ.thenN ?_
 refine AW.ret ?_
 refine FnQ.coe (AQ.retCT rfl rfl rfl (by repeat (first | exact List.Mem.head _ | refine List.Mem.tail _ ?_)) (by (dsimp only [List.set, List.cons_append, List.nil_append, List.take, List.drop]; done)) (by rfl) ⟨_, List.nil_sublist _, .nil⟩ ⟨rfl, rfl⟩) (Coe.tup (by (repeat (first | exact CoeL.nil | refine CoeL.cons Coe.rfl ?_ | refine CoeL.cons Coe.nil ?_ | refine CoeL.cons (Coe.agg ?_) ?_ | refine CoeL.cons (Coe.ro ?_) ?_)); done)) (⟨rfl, rfl⟩)
theorem awakeT_fn : SpK GN Tryz.prog 8 [] [] (Is (.val (.bool true))) := by
 have q1 : ((⟨#[45, 51]⟩ : ByteArray).toList == (⟨#[45, 51]⟩ : ByteArray).toList) = true := by decide +kernel
 refine SpK.enter Tryz.func8 rfl _ Tryz.ntmps8 rfl (fun w0 R0 hK => ?_)
 refine AW.seq ?_
 refine AW.region ?_
 refine AO.op (O.assign rfl rfl) rfl rfl rfl ?_
 refine AO.nil ?_
 refine AQ.thenN ?_
 refine AW.seq ?_
 refine AW.region ?_
 refine AO.op (O.call rfl Tryz.func37 rfl rfl rfl (intN_fn)) rfl rfl rfl ?_
 refine AO.op (O.call rfl Tryz.func36 rfl rfl rfl (print_fn)) rfl rfl rfl ?_
 refine AO.op (O.move rfl rfl) rfl rfl rfl ?_
 refine AO.op (O.extract rfl rfl rfl) rfl rfl rfl ?_
 refine AO.op (O.extract rfl rfl rfl) rfl rfl rfl ?_
 refine AO.op (O.assign rfl rfl) rfl rfl rfl ?_
 refine AO.op (O.assign rfl rfl) rfl rfl rfl ?_
 refine AO.nil ?_
 refine AQ.thenN ?_
 refine AW.seq ?_
 refine AW.region ?_
 refine AO.callK hK notFoot_nil rfl rfl Tryz.func38 rfl rfl rfl rfl rfl (parse_fn) ?_
 refine AO.op (O.move rfl rfl) rfl rfl rfl ?_
 refine AO.op (O.extract rfl rfl rfl) rfl rfl rfl ?_
 refine AO.op (O.extract rfl rfl rfl) rfl rfl rfl ?_
 refine AO.opB (O.alloc rfl (by (dsimp only [zerosA, List.replicate, List.append, List.flatten, AV.cells, Value.cells, List.toList_toArray, List.map]; done)) (by rfl)) rfl rfl rfl ?_
 intro B1
 (refine AO.store (i := 0) rfl rfl rfl rfl rfl rfl (by rfl) (by rfl) (by rfl) (by (dsimp only [List.set, List.cons_append, List.nil_append, List.take, List.drop]; done)) (by (dsimp only [List.set, List.cons_append, List.nil_append, List.take, List.drop]; done)) ?_)
 refine AO.op (O.assign rfl rfl) rfl rfl rfl ?_
 refine AO.nil ?_
 refine AQ.thenN ?_
 refine AW.seq ?_
 refine AW.region ?_
 refine AO.op (O.move rfl rfl) rfl rfl rfl ?_
 refine AO.op (O.eqlS rfl rfl rfl (by assumption)) rfl rfl rfl ?_
 refine AO.op (O.move rfl rfl) rfl rfl rfl ?_
 refine AO.op (O.move rfl rfl) rfl rfl rfl ?_
 refine AO.op (O.eql rfl rfl rfl (by exact beq_iff_eq.2 (by omega))) rfl rfl rfl ?_
 refine AO.op (O.pickT rfl rfl rfl) rfl rfl rfl ?_
 refine AO.op (O.move rfl rfl) rfl rfl rfl ?_
 refine AO.op (O.move rfl rfl) rfl rfl rfl ?_
 refine AO.op (O.eql rfl rfl rfl (by exact beq_iff_eq.2 (by omega))) rfl rfl rfl ?_
 refine AO.op (O.pickT rfl rfl rfl) rfl rfl rfl ?_
 refine AO.op (O.move rfl rfl) rfl rfl rfl ?_
 refine AO.op (O.fieldAddr rfl rfl) rfl rfl rfl ?_
 refine AO.op (O.load rfl rfl (by repeat (exact List.Mem.head _)) (by rfl)) rfl rfl rfl ?_
 refine AO.op (O.lenR rfl rfl) rfl rfl rfl ?_
 refine AO.op (O.eql rfl rfl rfl (by exact beq_iff_eq.2 (by omega))) rfl rfl rfl ?_
 refine AO.op (O.pickT rfl rfl rfl) rfl rfl rfl ?_
 refine AO.op (O.assign rfl rfl) rfl rfl rfl ?_
 refine AO.nil ?_
 refine AQ.thenN ?_
 refine AW.ret ?_
 refine AQ.ret1 rfl rfl ⟨_, List.nil_sublist _, .nil⟩ (⟨rfl, rfl⟩)
end Go.Proofs.YtoonnnifelnaiaaGreatDoor.By

namespace Go.Proofs.YtoonnnifelnaiaaGreatDoor.By
open Go.RowKit L A
set_option linter.unusedVariables false
set_option maxRecDepth 20000
set_option linter.unusedSimpArgs false
attribute [local irreducible] AW AQ AO

/-- The four bits and the extension of a number. -/
def ext (n : Int) : Int × List UInt8 := if n < 13 then (n, []) else if n < 269 then (13, [u8 (n - 13)]) else (14, [u8 ((n - 269) / 256), u8 (n - 269)])
theorem ext_le (n : Int) (h : 0 ≤ n) : 0 ≤ (ext n).1 ∧ (ext n).1 ≤ 14 := by unfold ext; (repeat' split) <;> simp <;> omega
theorem ext_len (n : Int) : (ext n).2.length ≤ 2 := by unfold ext; (repeat' split) <;> simp
def hdr (d n : Int) : List UInt8 := u8 (16 * (ext d).1 + (ext n).1) :: ((ext d).2 ++ (ext n).2)
theorem hdr_len (d n : Int) : (hdr d n).length ≤ 5 := by
 have := ext_len d
 have := ext_len n
 simp only [hdr, List.length_cons, List.length_append]; omega
def rawO : Int → List Opt → List UInt8
 | _, [] => []
 | l, o :: os => hdr (o.num - l) o.val.length ++ o.val ++ rawO o.num os
def lastO : Int → List Opt → Int
 | l, [] => l
 | _, o :: os => lastO o.num os
theorem rawO_snoc (o : Opt) : ∀ (l : Int) (os : List Opt), rawO l (os ++ [o]) = rawO l os ++ (hdr (o.num - lastO l os) o.val.length ++ o.val)
 | l, [] => by simp [rawO, lastO]
 | l, p :: os => by simp [rawO, lastO, rawO_snoc o p.num os]
theorem lastO_snoc (o : Opt) : ∀ (l : Int) (os : List Opt), lastO l (os ++ [o]) = o.num
 | l, [] => rfl
 | l, p :: os => lastO_snoc o p.num os
def AscO : Int → List Opt → Prop
 | _, [] => True
 | l, o :: os => l ≤ o.num ∧ o.num ≤ 65535 ∧ (o.val.length : Int) ≤ 1034 ∧ AscO o.num os
instance AscO.dec : ∀ (l : Int) (os : List Opt), Decidable (AscO l os)
 | _, [] => isTrue trivial
 | l, o :: os => by
  unfold AscO
  have := AscO.dec o.num os
  infer_instance
theorem AscO_snoc (o : Opt) : ∀ (l : Int) (os : List Opt), AscO l (os ++ [o]) ↔ AscO l os ∧ lastO l os ≤ o.num ∧ o.num ≤ 65535 ∧ (o.val.length : Int) ≤ 1034
 | l, [] => by simp [AscO, lastO]
 | l, p :: os => by simp only [List.cons_append, AscO, lastO, AscO_snoc o p.num os]; constructor <;> (rintro h; simp_all)
theorem AscO_app : ∀ {l : Int} {os ps : List Opt}, AscO l (os ++ ps) → AscO l os
 | l, [], ps, h => trivial
 | l, o :: os, ps, h => ⟨h.1, h.2.1, h.2.2.1, AscO_app h.2.2.2⟩
theorem AscO_take {l : Int} {os : List Opt} (h : AscO l os) (k : Nat) : AscO l (os.take k) := AscO_app (ps := os.drop k) (by rw [List.take_append_drop]; exact h)
theorem AscO_at {l : Int} {os : List Opt} (h : AscO l os) {k : Nat} (hk : k < os.length) : lastO l (os.take k) ≤ (oat os k).num ∧ (oat os k).num ≤ 65535 ∧ ((oat os k).val.length : Int) ≤ 1034 := by
 have := AscO_take h (k + 1)
 rw [take_snoc Opt.none hk, AscO_snoc] at this
 exact this.2
theorem lastO_ge : ∀ {l : Int} {os : List Opt}, AscO l os → l ≤ lastO l os ∧ (os ≠ [] → lastO l os ≤ 65535)
 | l, [], h => ⟨Int.le_refl _, fun h => absurd rfl h⟩
 | l, o :: os, h => by
  have := lastO_ge h.2.2.2
  refine ⟨Int.le_trans h.1 this.1, fun _ => ?_⟩
  cases os with
  | nil => exact h.2.1
  | cons p os => exact this.2 (by simp)
theorem lastO_le {l : Int} {os : List Opt} (h : AscO l os) (hl : l ≤ 65535) : l ≤ lastO l os ∧ lastO l os ≤ 65535 := by
 refine ⟨(lastO_ge h).1, ?_⟩
 cases os with
 | nil => exact hl
 | cons p os => exact (lastO_ge h).2 (by simp)
theorem rawO_len : ∀ {l : Int} {os : List Opt}, AscO l os → (rawO l os).length ≤ os.length * 1039
 | l, [], _ => by simp [rawO]
 | l, o :: os, h => by
  have h1 := rawO_len h.2.2.2
  have h2 := hdr_len (o.num - l) o.val.length
  have h3 := h.2.2.1
  simp only [rawO, List.length_append, List.length_cons]; omega

def headM (m : Msg) : List UInt8 := [u8 (64 + 16 * m.ty + m.tok.length), u8 m.code, u8 (m.id / 256), u8 m.id]
def raw (m : Msg) : List UInt8 := headM m ++ m.tok ++ rawO 0 m.opts ++ (if m.pay = [] then [] else 255 :: m.pay)
def ClsOk (c : Int) : Prop := c / 32 = 0 ∨ c / 32 = 2 ∨ c / 32 = 4 ∨ c / 32 = 5
/-- The fields of a message are valid. -/
def OkM (m : Msg) : Prop := (0 ≤ m.ty ∧ m.ty ≤ 3 ∧ 0 ≤ m.code ∧ m.code ≤ 255 ∧ ClsOk m.code) ∧ (0 ≤ m.id ∧ m.id ≤ 65535 ∧ (m.tok.length : Int) ≤ 8 ∧ (m.opts.length : Int) ≤ 32) ∧ AscO 0 m.opts ∧
 (m.code = 0 → (m.tok.length : Int) + m.opts.length + m.pay.length ≤ 0) ∧ (m.ty = 3 → m.code = 0) ∧ (m.pay.length : Int) ≤ 4096
instance (c : Int) : Decidable (ClsOk c) := by unfold ClsOk; infer_instance
instance (m : Msg) : Decidable (OkM m) := by unfold OkM; infer_instance
def ValM (m : Msg) : Prop := OkM m ∧ ((raw m).length : Int) ≤ 4096
instance (m : Msg) : Decidable (ValM m) := by unfold ValM; infer_instance
theorem parts_fn (n : Int) (hn : -1152921504606846976 ≤ n ∧ n ≤ 1152921504606846976) : Sp Tryz.prog 108 [.val (.int .i64 n)] [] (Is (.tup [.val (.int .u8 ((u8 (ext n).1).toNat : Int)), roB (ext n).2])) := by
 refine Sp.enter Tryz.func108 rfl _ Tryz.ntmps108 rfl (fun w0 R0 => ?_)
 refine AW.seq ?_
 refine AW.region ?_
 refine AO.op (O.assign rfl rfl) rfl rfl rfl ?_
 refine AO.op (O.assign rfl rfl) rfl rfl rfl ?_
 refine AO.nil ?_
 refine AQ.thenN ?_
 refine AW.seq ?_
 refine AW.block ?_
 refine AW.seq ?_
 refine AW.region ?_
 refine AO.op (O.move rfl rfl) rfl rfl rfl ?_
 refine AO.op (O.lss rfl rfl rfl (by rfl)) rfl rfl rfl ?_
 refine AO.op (O.assign rfl rfl) rfl rfl rfl ?_
 refine AO.nil ?_
 refine AQ.thenN ?_
 refine AW.split rfl (fun h => ?_) (fun h => ?_) <;> (try simp only [decide_eq_true_eq, decide_eq_false_iff_not, beq_iff_eq, beq_eq_false_iff_ne, bne_iff_ne, bne_eq_false_iff_eq, Bool.not_eq_true', Bool.not_eq_false', Bool.not_eq_true, Bool.not_eq_false, ne_eq, Int.not_lt, Int.not_le, Bool.and_eq_true, Bool.or_eq_true, Bool.or_eq_false_iff, Bool.and_eq_false_imp, strOf_toList, Decidable.not_not] at h)
 ·skip
  have e : ext n = (n, []) := by unfold ext; rw [if_pos h]
  refine AW.seq ?_
  refine AW.region ?_
  refine AO.op (O.move rfl rfl) rfl rfl rfl ?_
  refine AO.op (O.conv rfl rfl wU8any) rfl rfl rfl ?_
  refine AO.op (O.assign rfl rfl) rfl rfl rfl ?_
  refine AO.op (O.assign rfl rfl) rfl rfl rfl ?_
  refine AO.nil ?_
  refine AQ.thenN ?_
  refine AW.ret ?_
  refine AQ.blockR ?_
  refine AQ.thenR ?_
  refine AQ.g ?_
  refine G.nilRo 3 rfl ?_
  refine AQ.u ?_
  try dsimp only [List.map, List.eraseIdx, List.cons_append, List.nil_append]
  refine AQ.ret2 rfl rfl rfl ⟨_, List.nil_sublist _, .nil⟩ (⟨by rw [e]; rfl, rfl⟩)
 ·skip
  refine AW.seq ?_
  refine AW.region ?_
  refine AO.op (O.move rfl rfl) rfl rfl rfl ?_
  refine AO.op (O.lss rfl rfl rfl (by rfl)) rfl rfl rfl ?_
  refine AO.op (O.assign rfl rfl) rfl rfl rfl ?_
  refine AO.nil ?_
  refine AQ.thenN ?_
  refine AW.split rfl (fun h2 => ?_) (fun h2 => ?_) <;> (try simp only [decide_eq_true_eq, decide_eq_false_iff_not, beq_iff_eq, beq_eq_false_iff_ne, bne_iff_ne, bne_eq_false_iff_eq, Bool.not_eq_true', Bool.not_eq_false', Bool.not_eq_true, Bool.not_eq_false, ne_eq, Int.not_lt, Int.not_le, Bool.and_eq_true, Bool.or_eq_true, Bool.or_eq_false_iff, Bool.and_eq_false_imp, strOf_toList, Decidable.not_not] at h2)
  ·skip
   have e : ext n = (13, [u8 (n - 13)]) := by unfold ext; rw [if_neg (by omega), if_pos h2]
   refine AW.seq ?_
   refine AW.region ?_
   refine AO.op (O.move rfl rfl) rfl rfl rfl ?_
   refine AO.op (O.sub rfl rfl rfl (by exact wI64 (by omega))) rfl rfl rfl ?_
   refine AO.op (O.conv rfl rfl wU8any) rfl rfl rfl ?_
   refine AO.opB (O.buildSlice rfl rfl rfl (by rfl) (by rfl) (by rfl) (by rfl)) rfl rfl rfl ?_
   intro B1
   refine AO.op (O.assign rfl rfl) rfl rfl rfl ?_
   refine AO.op (O.assign rfl rfl) rfl rfl rfl ?_
   refine AO.nil ?_
   refine AQ.thenN ?_
   refine AW.ret ?_
   refine AQ.blockR ?_
   refine AQ.thenR ?_
   refine AQ.g ?_
   (refine G.freezeSl 0 3 rfl rfl ⟨Nat.le_refl _, by unfold maxLen; omega⟩ ?_; refine G.unfull 3 rfl ?_)
   refine AQ.u ?_
   try dsimp only [List.map, List.eraseIdx, List.cons_append, List.nil_append]
   refine AQ.ret2 rfl rfl rfl ⟨_, List.nil_sublist _, .nil⟩ (⟨by rw [e]; rfl, rfl⟩)
  ·skip
   have e : ext n = (14, [u8 ((n - 269) / 256), u8 (n - 269)]) := by unfold ext; rw [if_neg (by omega), if_neg (by omega)]
   refine AW.skip ?_
   refine AQ.blockN ?_
   refine AQ.thenN ?_
   refine AW.seq ?_
   refine AW.region ?_
   refine AO.op (O.move rfl rfl) rfl rfl rfl ?_
   refine AO.op (O.sub rfl rfl rfl (by exact wI64 (by omega))) rfl rfl rfl ?_
   refine AO.op (O.shrK 8 256 rfl rfl rfl rfl (by rfl)) rfl rfl rfl ?_
   refine AO.op (O.conv rfl rfl wU8any) rfl rfl rfl ?_
   refine AO.op (O.move rfl rfl) rfl rfl rfl ?_
   refine AO.op (O.sub rfl rfl rfl (by exact wI64 (by omega))) rfl rfl rfl ?_
   refine AO.op (O.conv rfl rfl wU8any) rfl rfl rfl ?_
   refine AO.opB (O.buildSlice rfl rfl rfl (by rfl) (by rfl) (by rfl) (by rfl)) rfl rfl rfl ?_
   intro B2
   refine AO.op (O.assign rfl rfl) rfl rfl rfl ?_
   refine AO.op (O.assign rfl rfl) rfl rfl rfl ?_
   refine AO.nil ?_
   refine AQ.thenN ?_
   refine AW.ret ?_
   refine AQ.g ?_
   (refine G.freezeSl 0 3 rfl rfl ⟨Nat.le_refl _, by unfold maxLen; omega⟩ ?_; refine G.unfull 3 rfl ?_)
   refine AQ.u ?_
   try dsimp only [List.map, List.eraseIdx, List.cons_append, List.nil_append]
   refine AQ.ret2 rfl rfl rfl ⟨_, List.nil_sublist _, .nil⟩ (⟨by rw [e]; rfl, rfl⟩)
end Go.Proofs.YtoonnnifelnaiaaGreatDoor.By

namespace Go.Proofs.YtoonnnifelnaiaaGreatDoor.By
open Go.RowKit L A
set_option linter.unusedVariables false
set_option maxRecDepth 20000
set_option linter.unusedSimpArgs false
attribute [local irreducible] AW AQ AO

set_option maxHeartbeats 4000000 in
theorem sound_fn (m : Msg) : Sp Tryz.prog 84 [aggM m] [] (Is (.val (.bool (decide (OkM m))))) := by
 obtain ⟨ty, code, id, tok, opts, pay⟩ := m
 refine Sp.enter Tryz.func84 rfl _ Tryz.ntmps84 rfl (fun w0 R0 => ?_)
 refine AW.seq ?_
 refine AW.region ?_
 refine AO.opB (O.box rfl rfl rfl rfl rfl) rfl rfl rfl ?_
 intro B1
 refine AO.op (O.assign rfl rfl) rfl rfl rfl ?_
 refine AO.nil ?_
 refine AQ.thenN ?_
 refine AW.seq ?_
 refine AW.region ?_
 refine AO.op (O.fieldAddr rfl rfl) rfl rfl rfl ?_
 refine AO.op (O.load rfl rfl (by repeat (exact List.Mem.head _)) (by rfl)) rfl rfl rfl ?_
 refine AO.op (O.shrK 5 32 rfl rfl rfl rfl (by rfl)) rfl rfl rfl ?_
 refine AO.op (O.assign rfl rfl) rfl rfl rfl ?_
 refine AO.nil ?_
 refine AQ.thenN ?_
 refine AW.seq ?_
 refine AW.seq ?_
 refine AW.region ?_
 refine AO.op (O.fieldAddr rfl rfl) rfl rfl rfl ?_
 refine AO.op (O.load rfl rfl (by repeat (exact List.Mem.head _)) (by rfl)) rfl rfl rfl ?_
 refine AO.op (O.lss rfl rfl rfl (by rfl)) rfl rfl rfl ?_
 refine AO.op (O.move rfl rfl) rfl rfl rfl ?_
 refine AO.opG rfl rfl rfl (fun hp => O.fieldAddr rfl rfl) ?_
 refine AO.opG rfl rfl rfl (fun hp => OpW.force 14 rfl (by exact hp) (O.load rfl rfl (by repeat (exact List.Mem.head _)) (by rfl))) ?_
 refine AO.opG rfl rfl rfl (fun hp => OpW.force 15 rfl (by exact hp) (O.gtr rfl rfl rfl (by rfl))) ?_
 refine AO.op (O.pickOr rfl rfl rfl rfl (fun h => by exact congrArg (fun b => !b) h)) rfl rfl rfl ?_
 refine AO.op (O.move rfl rfl) rfl rfl rfl ?_
 refine AO.opG rfl rfl rfl (fun hp => O.fieldAddr rfl rfl) ?_
 refine AO.opG rfl rfl rfl (fun hp => OpW.force 19 rfl (by exact hp) (O.load rfl rfl (by repeat (exact List.Mem.head _)) (by rfl))) ?_
 refine AO.opG rfl rfl rfl (fun hp => OpW.force 20 rfl (by exact hp) (O.lss rfl rfl rfl (by rfl))) ?_
 refine AO.op (O.pickOr rfl rfl rfl rfl (fun h => by exact congrArg (fun b => !b) h)) rfl rfl rfl ?_
 refine AO.op (O.move rfl rfl) rfl rfl rfl ?_
 refine AO.opG rfl rfl rfl (fun hp => O.fieldAddr rfl rfl) ?_
 refine AO.opG rfl rfl rfl (fun hp => OpW.force 24 rfl (by exact hp) (O.load rfl rfl (by repeat (exact List.Mem.head _)) (by rfl))) ?_
 refine AO.opG rfl rfl rfl (fun hp => OpW.force 25 rfl (by exact hp) (O.gtr rfl rfl rfl (by rfl))) ?_
 refine AO.op (O.pickOr rfl rfl rfl rfl (fun h => by exact congrArg (fun b => !b) h)) rfl rfl rfl ?_
 refine AO.op (O.move rfl rfl) rfl rfl rfl ?_
 refine AO.opG rfl rfl rfl (fun hp => O.move rfl rfl) ?_
 refine AO.opG rfl rfl rfl (fun hp => OpW.force 29 rfl (by exact hp) (O.neq rfl rfl rfl (by rfl))) ?_
 refine AO.opG rfl rfl rfl (fun hp => OpW.force 30 rfl (by exact hp) (O.move rfl rfl)) ?_
 refine AO.opG rfl rfl rfl (fun hp => O.move rfl rfl) ?_
 refine AO.opG rfl rfl rfl (fun hp => OpW.force 32 rfl (by exact hp) (O.neq rfl rfl rfl (by rfl))) ?_
 refine AO.opG rfl rfl rfl (fun hp => OpW.force 31 rfl (by exact hp) (O.pickAnd rfl rfl rfl rfl (fun h => by simp_all))) ?_
 refine AO.opG rfl rfl rfl (fun hp => OpW.force 34 rfl (by exact hp) (O.move rfl rfl)) ?_
 refine AO.opG rfl rfl rfl (fun hp => O.move rfl rfl) ?_
 refine AO.opG rfl rfl rfl (fun hp => OpW.force 36 rfl (by exact hp) (O.neq rfl rfl rfl (by rfl))) ?_
 refine AO.opG rfl rfl rfl (fun hp => OpW.force 35 rfl (by exact hp) (O.pickAnd rfl rfl rfl rfl (fun h => by simp_all))) ?_
 refine AO.opG rfl rfl rfl (fun hp => OpW.force 38 rfl (by exact hp) (O.move rfl rfl)) ?_
 refine AO.opG rfl rfl rfl (fun hp => O.move rfl rfl) ?_
 refine AO.opG rfl rfl rfl (fun hp => OpW.force 40 rfl (by exact hp) (O.neq rfl rfl rfl (by rfl))) ?_
 refine AO.opG rfl rfl rfl (fun hp => OpW.force 39 rfl (by exact hp) (O.pickAnd rfl rfl rfl rfl (fun h => by simp_all))) ?_
 refine AO.op (O.pickOr rfl rfl rfl rfl (fun h => by exact congrArg (fun b => !b) h)) rfl rfl rfl ?_
 refine AO.nil ?_
 refine AQ.thenN ?_
 refine AW.split rfl (fun h => ?_) (fun h => ?_) <;> (try simp only [decide_eq_true_eq, decide_eq_false_iff_not, beq_iff_eq, beq_eq_false_iff_ne, bne_iff_ne, bne_eq_false_iff_eq, Bool.not_eq_true', Bool.not_eq_false', Bool.not_eq_true, Bool.not_eq_false, ne_eq, Int.not_lt, Int.not_le, Bool.and_eq_true, Bool.or_eq_true, Bool.or_eq_false_iff, Bool.and_eq_false_imp, strOf_toList, Decidable.not_not] at h)
 ·skip
  have e : decide (OkM ⟨ty, code, id, tok, opts, pay⟩) = false := by
   refine decide_eq_false fun hk => ?_
   obtain ⟨⟨a1, a2, a3, a4, a5⟩, -⟩ := hk
   simp only [ClsOk] at *
   omega
  refine AW.seq ?_
  refine AW.region ?_
  refine AO.op (O.assign rfl rfl) rfl rfl rfl ?_
  refine AO.nil ?_
  refine AQ.thenN ?_
  refine AW.ret ?_
  refine AQ.thenR ?_
  refine AQ.ret1 rfl rfl ⟨_, List.nil_sublist _, .nil⟩ (⟨congrArg (fun z => AV.val (.bool z)) e.symm, rfl⟩)
 ·skip
  refine AW.skip ?_
  refine AQ.thenN ?_
  refine AW.seq ?_
  refine AW.seq ?_
  refine AW.region ?_
  refine AO.op (O.fieldAddr rfl rfl) rfl rfl rfl ?_
  refine AO.op (O.load rfl rfl (by repeat (exact List.Mem.head _)) (by rfl)) rfl rfl rfl ?_
  refine AO.op (O.lss rfl rfl rfl (by rfl)) rfl rfl rfl ?_
  refine AO.op (O.move rfl rfl) rfl rfl rfl ?_
  refine AO.opG rfl rfl rfl (fun hp => O.fieldAddr rfl rfl) ?_
  refine AO.opG rfl rfl rfl (fun hp => OpW.force 48 rfl (by exact hp) (O.load rfl rfl (by repeat (exact List.Mem.head _)) (by rfl))) ?_
  refine AO.opG rfl rfl rfl (fun hp => OpW.force 49 rfl (by exact hp) (O.gtr rfl rfl rfl (by rfl))) ?_
  refine AO.op (O.pickOr rfl rfl rfl rfl (fun h => by exact congrArg (fun b => !b) h)) rfl rfl rfl ?_
  refine AO.op (O.move rfl rfl) rfl rfl rfl ?_
  refine AO.opG rfl rfl rfl (fun hp => O.fieldAddr rfl rfl) ?_
  refine AO.opG rfl rfl rfl (fun hp => OpW.force 53 rfl (by exact hp) (O.load rfl rfl (by repeat (exact List.Mem.head _)) (by rfl))) ?_
  refine AO.opG rfl rfl rfl (fun hp => OpW.force 54 rfl (by exact hp) (O.lenR rfl rfl)) ?_
  refine AO.opG rfl rfl rfl (fun hp => OpW.force 55 rfl (by exact hp) (O.gtr rfl rfl rfl (by rfl))) ?_
  refine AO.op (O.pickOr rfl rfl rfl rfl (fun h => by exact congrArg (fun b => !b) h)) rfl rfl rfl ?_
  refine AO.op (O.move rfl rfl) rfl rfl rfl ?_
  refine AO.opG rfl rfl rfl (fun hp => O.fieldAddr rfl rfl) ?_
  refine AO.opG rfl rfl rfl (fun hp => OpW.force 59 rfl (by exact hp) (O.load rfl rfl (by repeat (exact List.Mem.head _)) (by rfl))) ?_
  refine AO.opG rfl rfl rfl (fun hp => OpW.force 60 rfl (by exact hp) (O.lenR rfl rfl)) ?_
  refine AO.opG rfl rfl rfl (fun hp => OpW.force 61 rfl (by exact hp) (O.gtr rfl rfl rfl (by rfl))) ?_
  refine AO.op (O.pickOr rfl rfl rfl rfl (fun h => by exact congrArg (fun b => !b) h)) rfl rfl rfl ?_
  refine AO.nil ?_
  refine AQ.thenN ?_
  refine AW.split rfl (fun h2 => ?_) (fun h2 => ?_) <;> (try simp only [decide_eq_true_eq, decide_eq_false_iff_not, beq_iff_eq, beq_eq_false_iff_ne, bne_iff_ne, bne_eq_false_iff_eq, Bool.not_eq_true', Bool.not_eq_false', Bool.not_eq_true, Bool.not_eq_false, ne_eq, Int.not_lt, Int.not_le, Bool.and_eq_true, Bool.or_eq_true, Bool.or_eq_false_iff, Bool.and_eq_false_imp, strOf_toList, Decidable.not_not] at h2)
  ·skip
   have e : decide (OkM ⟨ty, code, id, tok, opts, pay⟩) = false := by
    refine decide_eq_false fun hk => ?_
    obtain ⟨-, ⟨a1, a2, a3, a4⟩, -⟩ := hk
    simp only at *
    omega
   refine AW.seq ?_
   refine AW.region ?_
   refine AO.op (O.assign rfl rfl) rfl rfl rfl ?_
   refine AO.nil ?_
   refine AQ.thenN ?_
   refine AW.ret ?_
   refine AQ.thenR ?_
   refine AQ.ret1 rfl rfl ⟨_, List.nil_sublist _, .nil⟩ (⟨congrArg (fun z => AV.val (.bool z)) e.symm, rfl⟩)
  ·skip
   refine AW.skip ?_
   refine AQ.thenN ?_
   refine AW.seq ?_
   refine AW.region ?_
   refine AO.op (O.assign rfl rfl) rfl rfl rfl ?_
   refine AO.nil ?_
   refine AQ.thenN ?_
   refine AW.seq ?_
   refine AW.seq ?_
   refine AW.region ?_
   refine AO.op (O.fieldAddr rfl rfl) rfl rfl rfl ?_
   refine AO.op (O.load rfl rfl (by repeat (exact List.Mem.head _)) (by rfl)) rfl rfl rfl ?_
   refine AO.op (O.lenR rfl rfl) rfl rfl rfl ?_
   refine AO.op (O.move rfl rfl) rfl rfl rfl ?_
   refine AO.nil ?_
   refine AQ.thenN ?_
   refine AW.block ?_
   refine AW.loopK [(1, _), (65, _), (66, _)] (fun nn E H => ∃ (k : Nat), (k ≤ opts.length) ∧ (AscO 0 (opts.take k)) ∧ nn = opts.length - k ∧ E = [(4, .val (.int .i64 (lastO 0 (opts.take k)))), (67, .val (.int .i64 (k : Int)))] ∧ H = [.blk B1 41 6 [.val (.int .i64 ty), .val (.int .i64 code), .val (.int .i64 id), roB tok, roO opts, roB pay]]) _ (⟨0, by omega, trivial, rfl, rfl, rfl⟩) (by repeat (first | exact envNil | refine envCons rfl ?_)) (by repeat (first | exact envNil | refine envCons rfl ?_)) (by repeat (first | exact subPnil | refine subPcons 0 rfl ?_)) ?_
   rintro nn E H ⟨k, h1, ha, rfl, rfl, rfl⟩
   dsimp only [List.cons_append, List.nil_append]
   refine AW.seq ?_
   refine AW.region ?_
   refine AO.op (O.lss rfl rfl rfl (by rfl)) rfl rfl rfl ?_
   refine AO.nil ?_
   refine AQ.thenN ?_
   refine AW.seq ?_
   refine AW.split rfl (fun h3 => ?_) (fun h3 => ?_) <;> (try simp only [decide_eq_true_eq, decide_eq_false_iff_not, beq_iff_eq, beq_eq_false_iff_ne, bne_iff_ne, bne_eq_false_iff_eq, Bool.not_eq_true', Bool.not_eq_false', Bool.not_eq_true, Bool.not_eq_false, ne_eq, Int.not_lt, Int.not_le, Bool.and_eq_true, Bool.or_eq_true, Bool.or_eq_false_iff, Bool.and_eq_false_imp, strOf_toList, Decidable.not_not] at h3)
   ·skip
    have hk : k < opts.length := by omega
    refine AW.skip ?_
    refine AQ.thenN ?_
    refine AW.seq ?_
    refine AW.block ?_
    refine AW.seq ?_
    refine AW.region ?_
    refine AO.op (O.idxR rfl rfl rfl ⟨(by omega), (by omega)⟩) rfl rfl rfl ?_
    refine AO.op (O.loadRK rfl rfl (by exact getO (by omega) (by omega)) (by rfl)) rfl rfl rfl ?_
    refine AO.opB (O.alloc rfl (by (dsimp only [List.set, List.append, List.cons_append, List.nil_append, roB_cells, roI_cells, roO_cells, splice, ofConst, AV.cells, List.map, List.map_cons, List.map_nil, List.take, List.drop, Nat.zero_add, Nat.add_zero, Nat.reduceAdd, Nat.reduceMul, Nat.zero_mul, Value.cells, List.toList_toArray, zerosA, List.replicate, List.flatten, List.append_nil]; done)) (by rfl)) rfl rfl rfl ?_
    intro B2
    (refine AO.store (i := 0) rfl rfl rfl rfl rfl rfl (by rfl) (by rfl) (by rfl) (by (dsimp only [List.set, List.append, List.cons_append, List.nil_append, roB_cells, roI_cells, roO_cells, splice, ofConst, AV.cells, List.map, List.map_cons, List.map_nil, List.take, List.drop, Nat.zero_add, Nat.add_zero, Nat.reduceAdd, Nat.reduceMul, Nat.zero_mul, Value.cells, List.toList_toArray, zerosA, List.replicate, List.flatten, List.append_nil]; done)) (by (dsimp only [List.set, List.append, List.cons_append, List.nil_append, roB_cells, roI_cells, roO_cells, splice, ofConst, AV.cells, List.map, List.map_cons, List.map_nil, List.take, List.drop, Nat.zero_add, Nat.add_zero, Nat.reduceAdd, Nat.reduceMul, Nat.zero_mul, Value.cells, List.toList_toArray, zerosA, List.replicate, List.flatten, List.append_nil]; done)) ?_)
    refine AO.nil ?_
    refine AQ.thenN ?_
    refine AW.seq ?_
    refine AW.seq ?_
    refine AW.region ?_
    refine AO.op (O.fieldAddr rfl rfl) rfl rfl rfl ?_
    refine AO.op (O.load rfl rfl (by repeat (exact List.Mem.head _)) (by rfl)) rfl rfl rfl ?_
    refine AO.op (O.move rfl rfl) rfl rfl rfl ?_
    refine AO.op (O.lss rfl rfl rfl (by rfl)) rfl rfl rfl ?_
    refine AO.op (O.move rfl rfl) rfl rfl rfl ?_
    refine AO.opG rfl rfl rfl (fun hp => O.fieldAddr rfl rfl) ?_
    refine AO.opG rfl rfl rfl (fun hp => OpW.force 76 rfl (by exact hp) (O.load rfl rfl (by repeat (exact List.Mem.head _)) (by rfl))) ?_
    refine AO.opG rfl rfl rfl (fun hp => OpW.force 77 rfl (by exact hp) (O.gtr rfl rfl rfl (by rfl))) ?_
    refine AO.op (O.pickOr rfl rfl rfl rfl (fun h => by exact congrArg (fun b => !b) h)) rfl rfl rfl ?_
    refine AO.op (O.move rfl rfl) rfl rfl rfl ?_
    refine AO.opG rfl rfl rfl (fun hp => O.fieldAddr rfl rfl) ?_
    refine AO.opG rfl rfl rfl (fun hp => OpW.force 81 rfl (by exact hp) (O.load rfl rfl (by repeat (exact List.Mem.head _)) (by rfl))) ?_
    refine AO.opG rfl rfl rfl (fun hp => OpW.force 82 rfl (by exact hp) (O.lenR rfl rfl)) ?_
    refine AO.opG rfl rfl rfl (fun hp => OpW.force 83 rfl (by exact hp) (O.gtr rfl rfl rfl (by rfl))) ?_
    refine AO.op (O.pickOr rfl rfl rfl rfl (fun h => by exact congrArg (fun b => !b) h)) rfl rfl rfl ?_
    refine AO.nil ?_
    refine AQ.thenN ?_
    refine AW.split rfl (fun h4 => ?_) (fun h4 => ?_) <;> (try simp only [decide_eq_true_eq, decide_eq_false_iff_not, beq_iff_eq, beq_eq_false_iff_ne, bne_iff_ne, bne_eq_false_iff_eq, Bool.not_eq_true', Bool.not_eq_false', Bool.not_eq_true, Bool.not_eq_false, ne_eq, Int.not_lt, Int.not_le, Bool.and_eq_true, Bool.or_eq_true, Bool.or_eq_false_iff, Bool.and_eq_false_imp, strOf_toList, Decidable.not_not] at h4)
    ·skip
     have e : decide (OkM ⟨ty, code, id, tok, opts, pay⟩) = false := by
      refine decide_eq_false fun hk' => ?_
      obtain ⟨-, -, a1, -⟩ := hk'
      have := AscO_at a1 hk
      simp only at this
      omega
     refine AW.seq ?_
     refine AW.region ?_
     refine AO.op (O.assign rfl rfl) rfl rfl rfl ?_
     refine AO.nil ?_
     refine AQ.thenN ?_
     refine AW.ret ?_
     refine AQ.thenR ?_
     refine AQ.blockR ?_
     refine AQ.thenR ?_
     refine AQ.loopR ?_
     refine AQ.blockR ?_
     refine AQ.thenR ?_
     refine AQ.ret1 rfl rfl ⟨_, List.nil_sublist _, .nil⟩ (⟨congrArg (fun z => AV.val (.bool z)) e.symm, rfl⟩)
    ·skip
     have ha2 : AscO 0 (opts.take (k + 1)) := by
      rw [take_snoc Opt.none hk, AscO_snoc]
      exact ⟨ha, h4.1.1, h4.1.2, h4.2⟩
     have hl2 : lastO 0 (opts.take (k + 1)) = (oat opts k).num := by rw [take_snoc Opt.none hk, lastO_snoc]
     refine AW.skip ?_
     refine AQ.thenN ?_
     refine AW.region ?_
     refine AO.op (O.fieldAddr rfl rfl) rfl rfl rfl ?_
     refine AO.op (O.load rfl rfl (by repeat (exact List.Mem.head _)) (by rfl)) rfl rfl rfl ?_
     refine AO.op (O.assign rfl rfl) rfl rfl rfl ?_
     refine AO.nil ?_
     refine AQ.blockN ?_
     refine AQ.thenN ?_
     refine AW.region ?_
     refine AO.op (O.add rfl rfl rfl (by exact wI64 (by omega))) rfl rfl rfl ?_
     refine AO.op (O.move rfl rfl) rfl rfl rfl ?_
     refine AO.nil ?_
     refine AQ.loopKN _ _ _ (by omega) (⟨k + 1, by omega, ha2, rfl, by rw [hl2], rfl⟩) (by repeat (first | exact envNil | refine envCons rfl ?_)) (by repeat (first | exact envNil | refine envCons rfl ?_)) (by repeat (first | exact subPnil | refine subPcons 1 rfl ?_))
   ·skip
    obtain rfl : k = opts.length := by omega
    rw [List.take_length] at ha
    have hw : (pay.length : Int) ≤ 4096 → IntKind.i64.wrap ((tok.length : Int) + opts.length + pay.length) = (tok.length : Int) + opts.length + pay.length := fun h => wI64 (by omega)
    refine AW.exit ?_
    refine AQ.thenX ?_
    refine AQ.loopX ?_
    refine AQ.blockX rfl ?_
    refine AQ.thenN ?_
    refine AW.seq ?_
    refine AW.seq ?_
    refine AW.region ?_
    refine AO.op (O.fieldAddr rfl rfl) rfl rfl rfl ?_
    refine AO.op (O.load rfl rfl (by repeat (exact List.Mem.head _)) (by rfl)) rfl rfl rfl ?_
    refine AO.op (O.eql rfl rfl rfl (by rfl)) rfl rfl rfl ?_
    refine AO.op (O.move rfl rfl) rfl rfl rfl ?_
    refine AO.opG rfl rfl rfl (fun hp => O.fieldAddr rfl rfl) ?_
    refine AO.opG rfl rfl rfl (fun hp => OpW.force 93 rfl (by exact hp) (O.load rfl rfl (by repeat (exact List.Mem.head _)) (by rfl))) ?_
    refine AO.opG rfl rfl rfl (fun hp => OpW.force 94 rfl (by exact hp) (O.lenR rfl rfl)) ?_
    refine AO.opG rfl rfl rfl (fun hp => O.fieldAddr rfl rfl) ?_
    refine AO.opG rfl rfl rfl (fun hp => OpW.force 96 rfl (by exact hp) (O.load rfl rfl (by repeat (exact List.Mem.head _)) (by rfl))) ?_
    refine AO.opG rfl rfl rfl (fun hp => OpW.force 97 rfl (by exact hp) (O.lenR rfl rfl)) ?_
    refine AO.opG rfl rfl rfl (fun hp => OpW.force 95 rfl (by exact hp) (OpW.force 98 rfl (by exact hp) (O.add rfl rfl rfl (by exact wI64 (by omega))))) ?_
    refine AO.opG rfl rfl rfl (fun hp => O.fieldAddr rfl rfl) ?_
    refine AO.opG rfl rfl rfl (fun hp => OpW.force 100 rfl (by exact hp) (O.load rfl rfl (by repeat (exact List.Mem.head _)) (by rfl))) ?_
    refine AO.opG rfl rfl rfl (fun hp => OpW.force 101 rfl (by exact hp) (O.lenR rfl rfl)) ?_
    refine AO.opG rfl rfl rfl (fun hp => OpW.force 99 rfl (by exact hp) (OpW.force 102 rfl (by exact hp) (O.add rfl rfl rfl (by rfl)))) ?_
    refine AO.opG rfl rfl rfl (fun hp => OpW.force 103 rfl (by exact hp) (O.gtr rfl rfl rfl (by rfl))) ?_
    refine AO.op (O.pickAnd rfl rfl rfl rfl (fun h => by exact h)) rfl rfl rfl ?_
    refine AO.nil ?_
    refine AQ.thenN ?_
    refine AW.split rfl (fun h5 => ?_) (fun h5 => ?_) <;> (try simp only [decide_eq_true_eq, decide_eq_false_iff_not, beq_iff_eq, beq_eq_false_iff_ne, bne_iff_ne, bne_eq_false_iff_eq, Bool.not_eq_true', Bool.not_eq_false', Bool.not_eq_true, Bool.not_eq_false, ne_eq, Int.not_lt, Int.not_le, Bool.and_eq_true, Bool.or_eq_true, Bool.or_eq_false_iff, Bool.and_eq_false_imp, strOf_toList, Decidable.not_not] at h5)
    ·skip
     have e : decide (OkM ⟨ty, code, id, tok, opts, pay⟩) = false := by
      refine decide_eq_false fun hk' => ?_
      obtain ⟨-, -, -, a1, -, a2⟩ := hk'
      simp only at a1 a2
      have h6 := h5.2
      rw [hw a2] at h6
      have := a1 h5.1
      omega
     refine AW.seq ?_
     refine AW.region ?_
     refine AO.op (O.assign rfl rfl) rfl rfl rfl ?_
     refine AO.nil ?_
     refine AQ.thenN ?_
     refine AW.ret ?_
     refine AQ.thenR ?_
     refine AQ.ret1 rfl rfl ⟨_, List.nil_sublist _, .nil⟩ (⟨congrArg (fun z => AV.val (.bool z)) e.symm, rfl⟩)
    ·skip
     refine AW.skip ?_
     refine AQ.thenN ?_
     refine AW.seq ?_
     refine AW.region ?_
     refine AO.op (O.fieldAddr rfl rfl) rfl rfl rfl ?_
     refine AO.op (O.load rfl rfl (by repeat (exact List.Mem.head _)) (by rfl)) rfl rfl rfl ?_
     refine AO.op (O.neq rfl rfl rfl (by rfl)) rfl rfl rfl ?_
     refine AO.op (O.move rfl rfl) rfl rfl rfl ?_
     refine AO.opG rfl rfl rfl (fun hp => O.fieldAddr rfl rfl) ?_
     refine AO.opG rfl rfl rfl (fun hp => OpW.force 110 rfl (by exact hp) (O.load rfl rfl (by repeat (exact List.Mem.head _)) (by rfl))) ?_
     refine AO.opG rfl rfl rfl (fun hp => OpW.force 111 rfl (by exact hp) (O.eql rfl rfl rfl (by rfl))) ?_
     refine AO.op (O.pickOr rfl rfl rfl rfl (fun h => by exact congrArg (fun b => !b) h)) rfl rfl rfl ?_
     refine AO.op (O.move rfl rfl) rfl rfl rfl ?_
     refine AO.opG rfl rfl rfl (fun hp => O.fieldAddr rfl rfl) ?_
     refine AO.opG rfl rfl rfl (fun hp => OpW.force 115 rfl (by exact hp) (O.load rfl rfl (by repeat (exact List.Mem.head _)) (by rfl))) ?_
     refine AO.opG rfl rfl rfl (fun hp => OpW.force 116 rfl (by exact hp) (O.lenR rfl rfl)) ?_
     refine AO.opG rfl rfl rfl (fun hp => OpW.force 117 rfl (by exact hp) (O.leq rfl rfl rfl (by rfl))) ?_
     refine AO.op (O.pickAnd rfl rfl rfl rfl (fun h => by exact h)) rfl rfl rfl ?_
     refine AO.op (O.assign rfl rfl) rfl rfl rfl ?_
     refine AO.nil ?_
     refine AQ.thenN ?_
     refine AW.ret ?_
     have e : decide (OkM ⟨ty, code, id, tok, opts, pay⟩) = ((ty != 3 || code == 0) && decide ((pay.length : Int) ≤ 4096)) := by
      refine dec_eq ?_
      simp only [OkM, Bool.and_eq_true, Bool.or_eq_true, bne_iff_ne, beq_iff_eq, decide_eq_true_eq, ne_eq]
      constructor
      ·rintro ⟨-, -, -, -, a1, a2⟩
       refine ⟨?_, a2⟩
       by_cases h9 : ty = 3
       ·exact .inr (a1 h9)
       ·exact .inl h9
      ·rintro ⟨a1, a2⟩
       refine ⟨⟨by omega, by omega, by omega, by omega, ?_⟩, ⟨by omega, by omega, by omega, by omega⟩, ha, ?_, ?_, a2⟩
       ·unfold ClsOk; omega
       ·intro h9
        rcases Int.lt_or_le 0 ((tok.length : Int) + opts.length + pay.length) with h | h
        ·exact absurd h (by have := h5 h9; rw [hw a2] at this; omega)
        ·exact h
       ·intro h9
        rcases a1 with a1 | a1
        ·exact absurd h9 a1
        ·exact a1
     refine AQ.ret1 rfl rfl ⟨_, List.nil_sublist _, .nil⟩ (⟨congrArg (fun z => AV.val (.bool z)) e.symm, rfl⟩)
end Go.Proofs.YtoonnnifelnaiaaGreatDoor.By

namespace Go.Proofs.YtoonnnifelnaiaaGreatDoor.By
open Go.RowKit L A
set_option linter.unusedVariables false
set_option maxRecDepth 20000
set_option linter.unusedSimpArgs false
attribute [local irreducible] AW AQ AO

def rawTo (m : Msg) (k : Nat) : List UInt8 := headM m ++ m.tok ++ rawO 0 (m.opts.take k)
theorem rawTo_succ {m : Msg} {k : Nat} (h : k < m.opts.length) : rawTo m (k + 1) = rawTo m k ++ (hdr ((oat m.opts k).num - lastO 0 (m.opts.take k)) (oat m.opts k).val.length ++ (oat m.opts k).val) := by
 rw [rawTo, take_snoc Opt.none h, rawO_snoc, rawTo]; simp
theorem rawTo_len {m : Msg} (h : OkM m) (k : Nat) : (rawTo m k).length ≤ 12 + k * 1039 := by
 have h1 := rawO_len (AscO_take h.2.2.1 k)
 have h2 := h.2.1.2.2.1
 simp only [rawTo, headM, List.length_append, List.length_cons, List.length_nil, List.length_take] at h1 ⊢
 have : min k m.opts.length * 1039 ≤ k * 1039 := Nat.mul_le_mul_right _ (Nat.min_le_left _ _)
 omega
theorem raw_end (m : Msg) : raw m = rawTo m m.opts.length ++ (if m.pay = [] then [] else 255 :: m.pay) := by rw [raw, rawTo, List.take_length]

set_option maxHeartbeats 4000000 in
theorem encode_fn (m : Msg) (h : OkM m) : Sp Tryz.prog 85 [aggM m] [] (Is (roB (raw m))) := by
 have hlen := fun k => rawTo_len h k
 obtain ⟨⟨a1, a2, a3, a4, a5⟩, ⟨a6, a7, a8, a9⟩, a10, -, -, a11⟩ := h
 refine Sp.enter Tryz.func85 rfl _ Tryz.ntmps85 rfl (fun w0 R0 => ?_)
 have hd0a : (rawTo m 0).length = 4 + m.tok.length := by simp [rawTo, headM, rawO]; omega
 have hd0b : bytesA (rawTo m 0) = .val (.int .u8 ((u8 (64 + m.ty * 16 + m.tok.length)).toNat : Int)) :: .val (.int .u8 ((u8 m.code).toNat : Int)) :: .val (.int .u8 ((u8 (m.id / 256)).toNat : Int)) :: .val (.int .u8 ((u8 m.id).toNat : Int)) :: bytesA m.tok := by
  simp only [rawTo, headM, List.take_zero, rawO, List.append_nil, bytesA_app]
  simp [bytesA, show m.ty * 16 = 16 * m.ty by omega]
 refine AW.seq ?_
 refine AW.region ?_
 refine AO.opB (O.box rfl rfl rfl rfl rfl) rfl rfl rfl ?_
 intro B1
 refine AO.op (O.assign rfl rfl) rfl rfl rfl ?_
 refine AO.nil ?_
 refine AQ.thenN ?_
 refine AW.seq ?_
 refine AW.region ?_
 refine AO.op (O.fieldAddr rfl rfl) rfl rfl rfl ?_
 refine AO.op (O.load rfl rfl (by repeat (exact List.Mem.head _)) (by rfl)) rfl rfl rfl ?_
 refine AO.op (O.shlK 4 16 rfl rfl rfl rfl (by rfl) (by exact wI64 (by omega))) rfl rfl rfl ?_
 refine AO.op (O.or_ rfl rfl rfl (orI64 6 (m := 64) (by decide) (by omega) (by omega))) rfl rfl rfl ?_
 refine AO.op (O.fieldAddr rfl rfl) rfl rfl rfl ?_
 refine AO.op (O.load rfl rfl (by repeat (exact List.Mem.head _)) (by rfl)) rfl rfl rfl ?_
 refine AO.op (O.lenR rfl rfl) rfl rfl rfl ?_
 refine AO.op (O.or_ rfl rfl rfl (orI64 4 (m := 16) (by decide) (by omega) (by omega))) rfl rfl rfl ?_
 refine AO.op (O.conv rfl rfl wU8any) rfl rfl rfl ?_
 refine AO.op (O.fieldAddr rfl rfl) rfl rfl rfl ?_
 refine AO.op (O.load rfl rfl (by repeat (exact List.Mem.head _)) (by rfl)) rfl rfl rfl ?_
 refine AO.op (O.conv rfl rfl wU8any) rfl rfl rfl ?_
 refine AO.op (O.fieldAddr rfl rfl) rfl rfl rfl ?_
 refine AO.op (O.load rfl rfl (by repeat (exact List.Mem.head _)) (by rfl)) rfl rfl rfl ?_
 refine AO.op (O.shrK 8 256 rfl rfl rfl rfl (by rfl)) rfl rfl rfl ?_
 refine AO.op (O.conv rfl rfl wU8any) rfl rfl rfl ?_
 refine AO.op (O.fieldAddr rfl rfl) rfl rfl rfl ?_
 refine AO.op (O.load rfl rfl (by repeat (exact List.Mem.head _)) (by rfl)) rfl rfl rfl ?_
 refine AO.op (O.conv rfl rfl wU8any) rfl rfl rfl ?_
 refine AO.opB (O.buildSlice rfl rfl rfl (by rfl) (by rfl) (by rfl) (by rfl)) rfl rfl rfl ?_
 intro B2
 refine AO.g ?_
 refine G.closeRow (b := B2) (n := 4) (cap := 4) 0 rfl rfl rfl (Nat.le_refl _) (by (unfold maxLen; omega)) ?_
 refine AO.u ?_
 dsimp only [List.set]
 refine AO.op (O.assign rfl rfl) rfl rfl rfl ?_
 refine AO.nil ?_
 refine AQ.thenN ?_
 refine AW.seq ?_
 refine AW.region ?_
 refine AO.op (O.move rfl rfl) rfl rfl rfl ?_
 refine AO.op (O.fieldAddr rfl rfl) rfl rfl rfl ?_
 refine AO.op (O.load rfl rfl (by repeat (first | exact List.Mem.head _ | refine List.Mem.tail _ ?_)) (by rfl)) rfl rfl rfl ?_
 (refine AO.append' (i := 0) rfl rfl rfl rfl (by rfl) (by rfl) rfl rfl rfl (by exact SrcA.ro TyD.ax (by (simp; done)) (Nat.le_of_ble_eq_true rfl)) (by (simp [AV.cells, AV.one, *]; done)) (by (unfold maxLen; omega)) (by omega) (by (dsimp only [List.set, List.append, List.cons_append, List.nil_append, roB_cells, roI_cells, roO_cells, splice, ofConst, AV.cells, List.map, List.map_cons, List.map_nil, List.take, List.drop, Nat.zero_add, Nat.add_zero, Nat.reduceAdd, Nat.reduceMul, Nat.zero_mul, Value.cells, List.toList_toArray, zerosA, List.replicate, List.flatten, List.append_nil]; done)) (fun _ => by (dsimp only [List.set]; done)) ?_)
 intro V3 hV3
 refine AO.op (O.assign rfl rfl) rfl rfl rfl ?_
 refine AO.nil ?_
 refine AQ.thenN ?_
 refine AW.seq ?_
 refine AW.region ?_
 refine AO.op (O.assign rfl rfl) rfl rfl rfl ?_
 refine AO.nil ?_
 refine AQ.thenN ?_
 refine AW.seq ?_
 refine AW.seq ?_
 refine AW.region ?_
 refine AO.op (O.fieldAddr rfl rfl) rfl rfl rfl ?_
 refine AO.op (O.load rfl rfl (by repeat (first | exact List.Mem.head _ | refine List.Mem.tail _ ?_)) (by rfl)) rfl rfl rfl ?_
 refine AO.op (O.lenR rfl rfl) rfl rfl rfl ?_
 refine AO.op (O.move rfl rfl) rfl rfl rfl ?_
 refine AO.nil ?_
 refine AQ.thenN ?_
 refine AW.block ?_
 refine AW.loopK [(1, _), (36, _), (37, _)] (fun nn E H => ∃ (k : Nat) (V : Value), (k ≤ m.opts.length) ∧ (V.oneCell' = true) ∧ nn = m.opts.length - k ∧ E = [(3, .val V), (4, .val (.int .i64 (lastO 0 (m.opts.take k)))), (38, .val (.int .i64 (k : Int)))] ∧ H = [.row V 5 1 (rawTo m k).length (bytesA (rawTo m k)), .blk B1 41 6 [.val (.int .i64 m.ty), .val (.int .i64 m.code), .val (.int .i64 m.id), roB m.tok, roO m.opts, roB m.pay]]) _ (⟨0, V3, by omega, hV3, rfl, rfl, by rw [hd0b, hd0a]⟩) (by repeat (first | exact envNil | refine envCons rfl ?_)) (by repeat (first | exact envNil | refine envCons rfl ?_)) (by repeat (first | exact subPnil | refine subPcons 0 rfl ?_)) ?_
 rintro nn E H ⟨k, V, h1, hV, rfl, rfl, rfl⟩
 dsimp only [List.cons_append, List.nil_append]
 have hl0 := hlen k
 refine AW.seq ?_
 refine AW.region ?_
 refine AO.op (O.lss rfl rfl rfl (by rfl)) rfl rfl rfl ?_
 refine AO.nil ?_
 refine AQ.thenN ?_
 refine AW.seq ?_
 refine AW.split rfl (fun h3 => ?_) (fun h3 => ?_) <;> (try simp only [decide_eq_true_eq, decide_eq_false_iff_not, beq_iff_eq, beq_eq_false_iff_ne, bne_iff_ne, bne_eq_false_iff_eq, Bool.not_eq_true', Bool.not_eq_false', Bool.not_eq_true, Bool.not_eq_false, ne_eq, Int.not_lt, Int.not_le, Bool.and_eq_true, Bool.or_eq_true, Bool.or_eq_false_iff, Bool.and_eq_false_imp, strOf_toList, Decidable.not_not] at h3)
 ·skip
  have hk : k < m.opts.length := by omega
  have hl1 := hlen (k + 1)
  have ho := AscO_at a10 hk
  have hla := lastO_le (AscO_take a10 k) (by omega)
  have hd1 := ext_le ((oat m.opts k).num - lastO 0 (m.opts.take k)) (by omega)
  have hq1 := ext_le ((oat m.opts k).val.length : Int) (by omega)
  have hd2 := ext_len ((oat m.opts k).num - lastO 0 (m.opts.take k))
  have hq2 := ext_len ((oat m.opts k).val.length : Int)
  have hdu := u8_small (x := (ext ((oat m.opts k).num - lastO 0 (m.opts.take k))).1) (by omega)
  have hqu := u8_small (x := (ext ((oat m.opts k).val.length : Int)).1) (by omega)
  have hxu := u8_small (x := 16 * (ext ((oat m.opts k).num - lastO 0 (m.opts.take k))).1 + (ext ((oat m.opts k).val.length : Int)).1) (by omega)
  have hxv : ((u8 (16 * (ext ((oat m.opts k).num - lastO 0 (m.opts.take k))).1 + (ext ((oat m.opts k).val.length : Int)).1)).toNat : Int) = ((u8 (ext ((oat m.opts k).num - lastO 0 (m.opts.take k))).1).toNat : Int) * 16 + ((u8 (ext ((oat m.opts k).val.length : Int)).1).toNat : Int) := by omega
  have hlast : lastO 0 (m.opts.take (k + 1)) = (oat m.opts k).num := by rw [take_snoc Opt.none hk, lastO_snoc]
  have hsc : bytesA (rawTo m (k + 1)) = bytesA (rawTo m k) ++ [.val (.int .u8 (((u8 (ext ((oat m.opts k).num - lastO 0 (m.opts.take k))).1).toNat : Int) * 16 + ((u8 (ext ((oat m.opts k).val.length : Int)).1).toNat : Int)))] ++ bytesA (ext ((oat m.opts k).num - lastO 0 (m.opts.take k))).2 ++ bytesA (ext ((oat m.opts k).val.length : Int)).2 ++ bytesA (oat m.opts k).val := by
   rw [rawTo_succ hk, hdr]
   simp only [bytesA_app, List.append_assoc, List.cons_append, bytesA, List.map_cons, List.map_nil, List.nil_append, List.map_append, hxv]
  have hsl : (rawTo m (k + 1)).length = (rawTo m k).length + 1 + (ext ((oat m.opts k).num - lastO 0 (m.opts.take k))).2.length + (ext ((oat m.opts k).val.length : Int)).2.length + (oat m.opts k).val.length := by
   rw [rawTo_succ hk, hdr]
   simp only [List.length_append, List.length_cons]; omega
  refine AW.skip ?_
  refine AQ.thenN ?_
  refine AW.seq ?_
  refine AW.block ?_
  refine AW.seq ?_
  refine AW.region ?_
  refine AO.op (O.idxR rfl rfl rfl ⟨(by omega), (by omega)⟩) rfl rfl rfl ?_
  refine AO.op (O.loadRK rfl rfl (by exact getO (by omega) (by omega)) (by rfl)) rfl rfl rfl ?_
  refine AO.opB (O.alloc rfl (by (dsimp only [List.set, List.append, List.cons_append, List.nil_append, roB_cells, roI_cells, roO_cells, splice, ofConst, AV.cells, List.map, List.map_cons, List.map_nil, List.take, List.drop, Nat.zero_add, Nat.add_zero, Nat.reduceAdd, Nat.reduceMul, Nat.zero_mul, Value.cells, List.toList_toArray, zerosA, List.replicate, List.flatten, List.append_nil]; done)) (by rfl)) rfl rfl rfl ?_
  intro B4
  (refine AO.store (i := 0) rfl rfl rfl rfl rfl rfl (by rfl) (by rfl) (by rfl) (by (dsimp only [List.set, List.append, List.cons_append, List.nil_append, roB_cells, roI_cells, roO_cells, splice, ofConst, AV.cells, List.map, List.map_cons, List.map_nil, List.take, List.drop, Nat.zero_add, Nat.add_zero, Nat.reduceAdd, Nat.reduceMul, Nat.zero_mul, Value.cells, List.toList_toArray, zerosA, List.replicate, List.flatten, List.append_nil]; done)) (by (dsimp only [List.set, List.append, List.cons_append, List.nil_append, roB_cells, roI_cells, roO_cells, splice, ofConst, AV.cells, List.map, List.map_cons, List.map_nil, List.take, List.drop, Nat.zero_add, Nat.add_zero, Nat.reduceAdd, Nat.reduceMul, Nat.zero_mul, Value.cells, List.toList_toArray, zerosA, List.replicate, List.flatten, List.append_nil]; done)) ?_)
  refine AO.nil ?_
  refine AQ.thenN ?_
  refine AW.seq ?_
  refine AW.region ?_
  refine AO.op (O.fieldAddr rfl rfl) rfl rfl rfl ?_
  refine AO.op (O.load rfl rfl (by repeat (exact List.Mem.head _)) (by rfl)) rfl rfl rfl ?_
  refine AO.op (O.move rfl rfl) rfl rfl rfl ?_
  refine AO.op (O.sub rfl rfl rfl (by exact wI64 (by omega))) rfl rfl rfl ?_
  refine AO.op (O.call rfl Tryz.func108 rfl rfl rfl (parts_fn _ ⟨by omega, by omega⟩)) rfl rfl rfl ?_
  refine AO.op (O.move rfl rfl) rfl rfl rfl ?_
  refine AO.op (O.extract rfl rfl rfl) rfl rfl rfl ?_
  refine AO.op (O.extract rfl rfl rfl) rfl rfl rfl ?_
  refine AO.op (O.assign rfl rfl) rfl rfl rfl ?_
  refine AO.op (O.assign rfl rfl) rfl rfl rfl ?_
  refine AO.nil ?_
  refine AQ.thenN ?_
  refine AW.seq ?_
  refine AW.region ?_
  refine AO.op (O.fieldAddr rfl rfl) rfl rfl rfl ?_
  refine AO.op (O.load rfl rfl (by repeat (exact List.Mem.head _)) (by rfl)) rfl rfl rfl ?_
  refine AO.op (O.lenR rfl rfl) rfl rfl rfl ?_
  refine AO.op (O.call rfl Tryz.func108 rfl rfl rfl (parts_fn _ ⟨by omega, by omega⟩)) rfl rfl rfl ?_
  refine AO.op (O.move rfl rfl) rfl rfl rfl ?_
  refine AO.op (O.extract rfl rfl rfl) rfl rfl rfl ?_
  refine AO.op (O.extract rfl rfl rfl) rfl rfl rfl ?_
  refine AO.op (O.assign rfl rfl) rfl rfl rfl ?_
  refine AO.op (O.assign rfl rfl) rfl rfl rfl ?_
  refine AO.nil ?_
  refine AQ.thenN ?_
  refine AW.seq ?_
  refine AW.regionM [(0, false), (1, false), (2, false), (3, false), (4, false), (5, false), (7, false), (9, false), (11, false), (12, false), (6, true), (8, true), (10, true), (13, true), (14, true)] (by kernel_rfl) (by kernel_rfl) (by exact (by exact splitRow 3 1 rfl rfl splitNil)) ?_
  dsimp only [List.eraseIdx]
  refine AM.op rfl (O.move rfl rfl) rfl rfl rfl ?_
  refine AM.op rfl (O.move rfl rfl) rfl rfl rfl ?_
  refine AM.op rfl (O.shlK 4 16 rfl rfl rfl rfl (by rfl) (by exact wU8 (by omega))) rfl rfl rfl ?_
  refine AM.op rfl (O.move rfl rfl) rfl rfl rfl ?_
  refine AM.op rfl (O.or_ rfl rfl rfl (orU8 4 (m := 16) (by decide) (by omega) (by omega))) rfl rfl rfl ?_
  refine AM.op rfl (OpW.frz (O.buildSlice rfl rfl rfl (by rfl) (by rfl) (by rfl) (by rfl)) (by (unfold maxLen; omega))) rfl rfl rfl ?_
  refine AM.op rfl (O.move rfl rfl) rfl rfl rfl ?_
  refine AM.op rfl (O.move rfl rfl) rfl rfl rfl ?_
  refine AM.op rfl (O.fieldAddr rfl rfl) rfl rfl rfl ?_
  refine AM.op rfl (O.load rfl rfl (by repeat (exact List.Mem.head _)) (by rfl)) rfl rfl rfl ?_
  refine AM.main _ rfl (fun w0 R0 => ?_)
  (refine AO.append' (i := 0) rfl rfl rfl rfl (by rfl) (by rfl) rfl rfl rfl (by exact SrcA.ro TyD.ax (by rfl) (Nat.le_of_ble_eq_true rfl)) (by rfl) (by (unfold maxLen; omega)) (by omega) (by (dsimp only [List.set, List.append, List.cons_append, List.nil_append, roB_cells, roI_cells, roO_cells, splice, ofConst, AV.cells, List.map, List.map_cons, List.map_nil, List.take, List.drop, Nat.zero_add, Nat.add_zero, Nat.reduceAdd, Nat.reduceMul, Nat.zero_mul, Value.cells, List.toList_toArray, zerosA, List.replicate, List.flatten, List.append_nil]; done)) (fun _ => by (dsimp only [List.set]; done)) ?_)
  intro V5 hV5
  refine AM.ok ?_
  dsimp only [putE]
  refine AM.main _ rfl (fun w0 R0 => ?_)
  (refine AO.append' (i := 0) rfl rfl rfl rfl (by rfl) (by rfl) rfl rfl rfl (by exact SrcA.ro TyD.ax (by (simp; done)) (Nat.le_of_ble_eq_true rfl)) (by (simp [AV.cells, AV.one, *]; done)) (by (unfold maxLen; omega)) (by omega) (by (dsimp only [List.set, List.append, List.cons_append, List.nil_append, roB_cells, roI_cells, roO_cells, splice, ofConst, AV.cells, List.map, List.map_cons, List.map_nil, List.take, List.drop, Nat.zero_add, Nat.add_zero, Nat.reduceAdd, Nat.reduceMul, Nat.zero_mul, Value.cells, List.toList_toArray, zerosA, List.replicate, List.flatten, List.append_nil]; done)) (fun _ => by (dsimp only [List.set]; done)) ?_)
  intro V6 hV6
  refine AM.ok ?_
  dsimp only [putE]
  refine AM.main _ rfl (fun w0 R0 => ?_)
  (refine AO.append' (i := 0) rfl rfl rfl rfl (by rfl) (by rfl) rfl rfl rfl (by exact SrcA.ro TyD.ax (by (simp; done)) (Nat.le_of_ble_eq_true rfl)) (by (simp [AV.cells, AV.one, *]; done)) (by (unfold maxLen; omega)) (by omega) (by (dsimp only [List.set, List.append, List.cons_append, List.nil_append, roB_cells, roI_cells, roO_cells, splice, ofConst, AV.cells, List.map, List.map_cons, List.map_nil, List.take, List.drop, Nat.zero_add, Nat.add_zero, Nat.reduceAdd, Nat.reduceMul, Nat.zero_mul, Value.cells, List.toList_toArray, zerosA, List.replicate, List.flatten, List.append_nil]; done)) (fun _ => by (dsimp only [List.set]; done)) ?_)
  intro V7 hV7
  refine AM.ok ?_
  dsimp only [putE]
  refine AM.main _ rfl (fun w0 R0 => ?_)
  (refine AO.append' (i := 0) rfl rfl rfl rfl (by rfl) (by rfl) rfl rfl rfl (by exact SrcA.ro TyD.ax (by (simp; done)) (Nat.le_of_ble_eq_true rfl)) (by (simp [AV.cells, AV.one, *]; done)) (by (unfold maxLen; omega)) (by omega) (by (dsimp only [List.set, List.append, List.cons_append, List.nil_append, roB_cells, roI_cells, roO_cells, splice, ofConst, AV.cells, List.map, List.map_cons, List.map_nil, List.take, List.drop, Nat.zero_add, Nat.add_zero, Nat.reduceAdd, Nat.reduceMul, Nat.zero_mul, Value.cells, List.toList_toArray, zerosA, List.replicate, List.flatten, List.append_nil]; done)) (fun _ => by (dsimp only [List.set]; done)) ?_)
  intro V8 hV8
  refine AM.ok ?_
  dsimp only [putE]
  refine AM.main _ rfl (fun w0 R0 => ?_)
  refine AO.op (O.assign rfl rfl) rfl rfl rfl ?_
  refine AM.ok ?_
  dsimp only [putE]
  refine AM.nil ?_
  dsimp only [List.cons_append, List.nil_append]
  refine AQ.thenN ?_
  refine AW.region ?_
  refine AO.op (O.fieldAddr rfl rfl) rfl rfl rfl ?_
  refine AO.op (O.load rfl rfl (by repeat (first | exact List.Mem.head _ | refine List.Mem.tail _ ?_)) (by rfl)) rfl rfl rfl ?_
  refine AO.op (O.assign rfl rfl) rfl rfl rfl ?_
  refine AO.nil ?_
  refine AQ.blockN ?_
  refine AQ.thenN ?_
  refine AW.region ?_
  refine AO.op (O.add rfl rfl rfl (by exact wI64 (by omega))) rfl rfl rfl ?_
  refine AO.op (O.move rfl rfl) rfl rfl rfl ?_
  refine AO.nil ?_
  refine AQ.loopKN _ _ _ (by omega) (⟨k + 1, _, by omega, ‹_›, rfl, by rw [hlast], by rw [hsc, hsl]⟩) (by repeat (first | exact envNil | refine envCons rfl ?_)) (by repeat (first | exact envNil | refine envCons rfl ?_)) (by repeat (first | exact subPnil | refine subPcons 0 rfl ?_ | refine subPcons 1 rfl ?_))
 ·skip
  obtain rfl : k = m.opts.length := by omega
  have hre : raw m = rawTo m m.opts.length ++ (if m.pay = [] then [] else 255 :: m.pay) := raw_end m
  refine AW.exit ?_
  refine AQ.thenX ?_
  refine AQ.loopX ?_
  refine AQ.blockX rfl ?_
  refine AQ.thenN ?_
  refine AW.seq ?_
  refine AW.seq ?_
  refine AW.region ?_
  refine AO.op (O.fieldAddr rfl rfl) rfl rfl rfl ?_
  refine AO.op (O.load rfl rfl (by repeat (first | exact List.Mem.head _ | refine List.Mem.tail _ ?_)) (by rfl)) rfl rfl rfl ?_
  refine AO.op (O.lenR rfl rfl) rfl rfl rfl ?_
  refine AO.op (O.gtr rfl rfl rfl (by rfl)) rfl rfl rfl ?_
  refine AO.nil ?_
  refine AQ.thenN ?_
  refine AW.split rfl (fun h5 => ?_) (fun h5 => ?_) <;> (try simp only [decide_eq_true_eq, decide_eq_false_iff_not, beq_iff_eq, beq_eq_false_iff_ne, bne_iff_ne, bne_eq_false_iff_eq, Bool.not_eq_true', Bool.not_eq_false', Bool.not_eq_true, Bool.not_eq_false, ne_eq, Int.not_lt, Int.not_le, Bool.and_eq_true, Bool.or_eq_true, Bool.or_eq_false_iff, Bool.and_eq_false_imp, strOf_toList, Decidable.not_not] at h5)
  ·skip
   rw [if_neg (fun e => by rw [e] at h5; simp at h5)] at hre
   refine AW.regionM [(0, false), (1, false), (3, false), (4, false), (2, true), (5, true), (6, true)] (by kernel_rfl) (by kernel_rfl) (by exact (by exact splitRow 3 0 rfl rfl splitNil)) ?_
   dsimp only [List.eraseIdx]
   refine AM.op rfl (O.move rfl rfl) rfl rfl rfl ?_
   refine AM.op rfl (OpW.frz (O.buildSlice rfl rfl rfl (by rfl) (by rfl) (by rfl) (by rfl)) (by (unfold maxLen; omega))) rfl rfl rfl ?_
   refine AM.op rfl (O.fieldAddr rfl rfl) rfl rfl rfl ?_
   refine AM.op rfl (O.load rfl rfl (by repeat (exact List.Mem.head _)) (by rfl)) rfl rfl rfl ?_
   refine AM.main _ rfl (fun w0 R0 => ?_)
   (refine AO.append' (i := 0) rfl rfl rfl rfl (by rfl) (by rfl) rfl rfl rfl (by exact SrcA.ro TyD.ax (by rfl) (Nat.le_of_ble_eq_true rfl)) (by rfl) (by (unfold maxLen; omega)) (by omega) (by (dsimp only [List.set, List.append, List.cons_append, List.nil_append, roB_cells, roI_cells, roO_cells, splice, ofConst, AV.cells, List.map, List.map_cons, List.map_nil, List.take, List.drop, Nat.zero_add, Nat.add_zero, Nat.reduceAdd, Nat.reduceMul, Nat.zero_mul, Value.cells, List.toList_toArray, zerosA, List.replicate, List.flatten, List.append_nil]; done)) (fun _ => by (dsimp only [List.set]; done)) ?_)
   intro V9 hV9
   refine AM.ok ?_
   dsimp only [putE]
   refine AM.main _ rfl (fun w0 R0 => ?_)
   (refine AO.append' (i := 0) rfl rfl rfl rfl (by rfl) (by rfl) rfl rfl rfl (by exact SrcA.ro TyD.ax (by (simp; done)) (Nat.le_of_ble_eq_true rfl)) (by (simp [AV.cells, AV.one, *]; done)) (by (unfold maxLen; omega)) (by omega) (by (dsimp only [List.set, List.append, List.cons_append, List.nil_append, roB_cells, roI_cells, roO_cells, splice, ofConst, AV.cells, List.map, List.map_cons, List.map_nil, List.take, List.drop, Nat.zero_add, Nat.add_zero, Nat.reduceAdd, Nat.reduceMul, Nat.zero_mul, Value.cells, List.toList_toArray, zerosA, List.replicate, List.flatten, List.append_nil]; done)) (fun _ => by (dsimp only [List.set]; done)) ?_)
   intro V10 hV10
   refine AM.ok ?_
   dsimp only [putE]
   refine AM.main _ rfl (fun w0 R0 => ?_)
   refine AO.op (O.assign rfl rfl) rfl rfl rfl ?_
   refine AM.ok ?_
   dsimp only [putE]
   refine AM.nil ?_
   dsimp only [List.cons_append, List.nil_append]
   refine AQ.thenN ?_
   refine AW.seq ?_
   refine AW.region ?_
   refine AO.op (O.move rfl rfl) rfl rfl rfl ?_
   refine AO.op (O.assign rfl rfl) rfl rfl rfl ?_
   refine AO.nil ?_
   refine AQ.thenN ?_
   refine AW.ret ?_
   refine AQ.g ?_
   (refine G.freezeRow 0 rfl [2] (by (repeat (first | exact frNil | refine frCons rfl ?_)); done) ?_)
   refine AQ.u ?_
   try dsimp only [List.map, List.eraseIdx, List.cons_append, List.nil_append]
   refine AQ.ret1 rfl rfl ⟨_, List.nil_sublist _, .nil⟩ (⟨roB_of (by rw [hre]; simp only [List.length_append, List.length_cons]; omega) (by rw [hre]; simp [bytesA]), rfl⟩)
  ·skip
   rw [if_pos (List.eq_nil_of_length_eq_zero (by omega)), List.append_nil] at hre
   refine AW.skip ?_
   refine AQ.thenN ?_
   refine AW.seq ?_
   refine AW.region ?_
   refine AO.op (O.move rfl rfl) rfl rfl rfl ?_
   refine AO.op (O.assign rfl rfl) rfl rfl rfl ?_
   refine AO.nil ?_
   refine AQ.thenN ?_
   refine AW.ret ?_
   refine AQ.g ?_
   (refine G.freezeRow 0 rfl [2] (by (repeat (first | exact frNil | refine frCons rfl ?_)); done) ?_)
   refine AQ.u ?_
   try dsimp only [List.map, List.eraseIdx, List.cons_append, List.nil_append]
   refine AQ.ret1 rfl rfl ⟨_, List.nil_sublist _, .nil⟩ (⟨by rw [hre]; rfl, rfl⟩)
end Go.Proofs.YtoonnnifelnaiaaGreatDoor.By

namespace Go.Proofs.YtoonnnifelnaiaaGreatDoor.By
open Go.RowKit L A
set_option linter.unusedVariables false
set_option maxRecDepth 20000
set_option linter.unusedSimpArgs false
attribute [local irreducible] AW AQ AO

end Go.Proofs.YtoonnnifelnaiaaGreatDoor.By

namespace Go.Proofs.YtoonnnifelnaiaaGreatDoor.By
open Go.RowKit L A
set_option linter.unusedVariables false
set_option maxRecDepth 20000
set_option linter.unusedSimpArgs false
attribute [local irreducible] AW AQ AO

def encR (m : Msg) : List UInt8 × Int := if ValM m then (raw m, 0) else ([], 1)
set_option maxRecDepth 20000 in
set_option maxHeartbeats 4000000 in
theorem valid_fn (m : Msg) : Sp Tryz.prog 53 [aggM m] [] (Is (.val (.bool (decide (ValM m))))) := by
 refine Sp.enter Tryz.func53 rfl _ Tryz.ntmps53 rfl (fun w0 R0 => ?_)
 refine AW.seq ?_
 refine AW.region ?_
 refine AO.opB (O.box rfl rfl rfl rfl rfl) rfl rfl rfl ?_
 intro B1
 refine AO.op (O.assign rfl rfl) rfl rfl rfl ?_
 refine AO.nil ?_
 refine AQ.thenN ?_
 refine AW.seq ?_
 refine AW.region ?_
 (refine AO.op (O.loadK rfl rfl (by repeat (exact List.Mem.head _)) (by (dsimp only [List.set, List.append, List.cons_append, List.nil_append, roB_cells, roI_cells, roO_cells, splice, ofConst, AV.cells, List.map, List.map_cons, List.map_nil, List.take, List.drop, Nat.zero_add, Nat.add_zero, Nat.reduceAdd, Nat.reduceMul, Nat.zero_mul, Value.cells, List.toList_toArray, zerosA, List.replicate, List.flatten, List.append_nil]; done)) (by rfl)) rfl rfl rfl ?_)
 refine AO.op (O.call rfl Tryz.func84 rfl rfl rfl (sound_fn m)) rfl rfl rfl ?_
 refine AO.op (O.move rfl rfl) rfl rfl rfl ?_
 (refine AO.opG rfl rfl rfl (fun hp => O.loadK rfl rfl (by repeat (exact List.Mem.head _)) (by (dsimp only [List.set, List.append, List.cons_append, List.nil_append, roB_cells, roI_cells, roO_cells, splice, ofConst, AV.cells, List.map, List.map_cons, List.map_nil, List.take, List.drop, Nat.zero_add, Nat.add_zero, Nat.reduceAdd, Nat.reduceMul, Nat.zero_mul, Value.cells, List.toList_toArray, zerosA, List.replicate, List.flatten, List.append_nil]; done)) (by rfl)) ?_)
 refine AO.opG rfl rfl rfl (fun hp => OpW.force 6 rfl (by exact hp) (O.call rfl Tryz.func85 rfl rfl rfl (encode_fn m (by simpa using hp)))) ?_
 refine AO.opG rfl rfl rfl (fun hp => OpW.force 7 rfl (by exact hp) (O.lenR rfl rfl)) ?_
 refine AO.opG rfl rfl rfl (fun hp => OpW.force 8 rfl (by exact hp) (O.leq rfl rfl rfl (by rfl))) ?_
 refine AO.op (O.pickAnd rfl rfl rfl rfl (fun h => by exact h)) rfl rfl rfl ?_
 refine AO.op (O.assign rfl rfl) rfl rfl rfl ?_
 refine AO.nil ?_
 refine AQ.thenN ?_
 refine AW.ret ?_
 have e2 : decide (ValM m) = (decide (OkM m) && decide (((raw m).length : Int) ≤ 4096)) := dec_eq (by simp [ValM])
 refine AQ.ret1 rfl rfl ⟨_, List.nil_sublist _, .nil⟩ (⟨congrArg (fun z => AV.val (.bool z)) e2.symm, rfl⟩)
end Go.Proofs.YtoonnnifelnaiaaGreatDoor.By

namespace Go.Proofs.YtoonnnifelnaiaaGreatDoor.A
open Go.RowKit L
open Go.Maps (Keyed)
set_option linter.unusedVariables false
set_option maxRecDepth 20000
set_option linter.unusedSimpArgs false

abbrev Ents := List (Lit × Lit)
def dents (M : Ents) : List (Lit × DataW Unit) := M.map fun p => (p.1, DataW.lit p.2)
def OwnM (P : Program) (k e : TypeId) (b : Nat) (M : Ents) (W : World) : Prop := ∃ n l, W.ownsMap P k (plainElem (H := Unit) P e) b n (.map l) ∧ l.Perm (dents M)
def mapHE (P : Program) (k e : TypeId) (b : Nat) (M : Ents) : HE := .prd (fun c => c = b) (OwnM P k e b M)

def mHas (M : Ents) (k : Lit) : Bool := M.any fun p => p.1.sameKey k
def mGet (M : Ents) (k z : Lit) : Lit := match M.find? (fun p => p.1.sameKey k) with | some p => p.2 | none => z
def mDel (M : Ents) (k : Lit) : Ents := M.filter fun p => !p.1.sameKey k
def mPut (M : Ents) (k v : Lit) : Ents := (k, v) :: mDel M k

theorem OwnM.same {P : Program} {k e : TypeId} {b : Nat} {M : Ents} {W W' : World} (h : OwnM P k e b M W) (hb : W'.heap[b]? = W.heap[b]?) : OwnM P k e b M W' := by
 obtain ⟨n, l, ⟨es, clock, h1, h2⟩, h3⟩ := h
 exact ⟨n, l, ⟨es, clock, hb.trans h1, h2⟩, h3⟩
section
variable {P : Program} {k e : TypeId} {b : Nat} {M : Ents} {W : World}

theorem OwnM.size (h : OwnM P k e b M W) : ∃ l, W.ownsMap P k (plainElem (H := Unit) P e) b M.length (.map l) ∧ l.Perm (dents M) := by
 obtain ⟨n, l, ⟨es, clock, h1, h2, h3, h4⟩, h5⟩ := h
 have e1 : es.size = M.length := by
  have h6 := congrArg Maps.size h4
  simp [Maps.size, length_sorted] at h6
  rw [← h6, h5.length_eq]; simp [dents]
 exact ⟨l, ⟨es, clock, h1, h2, by omega, h4⟩, h5⟩
theorem OwnM.apart (h : OwnM P k e b M W) (K : Keyed P k) : (dents M).Pairwise (fun p q => p.1 ≠ q.1) := by
 obtain ⟨n, l, h1, h2⟩ := h
 obtain ⟨es, he, hp⟩ := h1.tidy K
 cases he
 exact (h2.pairwise_iff (fun {_ _} hne => Ne.symm hne)).1 hp
theorem OwnM.made (W : World) (P : Program) (k e : TypeId) : OwnM P k e W.heap.size [] (W.alloc (.map #[] 0)) := ⟨0, [], World.ownsMap_made W P k _, .refl _⟩

end

/-- What a key reads as, whatever the world. -/
def KeyA (P : Program) (k : TypeId) (x : AV) (kl : Lit) : Prop := ∀ R W v, RelV R W x v → keyOf P k v = some kl
theorem KeyA.int {P : Program} {k : TypeId} {q : IntKind} (hk : P.underlying k = some (.int q)) {a : Int} (hw : (Lit.int q a).wf = true) : KeyA P k (.val (.int q a)) (.int q a) := fun R W v h => by
 rw [h.val_inv]; exact Maps.keyOf_int_mk hk hw
class KeyT (P : Program) (k : Nat) : Prop where
 ax : Keyed P k
class ZeroT (P : Program) (e : Nat) (z : outParam Value) : Prop where
 ax : ∀ W, (zeroValue e).run P W = .ok z W
def mBool : Lit → Bool
 | .bool c => c
 | _ => false
def mInt : Lit → Int
 | .int _ c => c
 | _ => 0
theorem wfI64 {a : Int} (h : -9223372036854775808 ≤ a ∧ a ≤ 9223372036854775807) : (Lit.int .i64 a).wf = true := by
 simpa [Lit.wf, IntKind.min, IntKind.max, IntKind.signed, IntKind.bits] using h
def key2 (a b : Int) : Lit := .string (keyBytes [.int .i64 a, .int .i64 b])

section
variable {Γ : Cx} {P : Program} {Q : Exit → Act → World → Prop} {E : Env} {H : List HE} {N : Nat} {o : Oper} {ops : Array Oper} {rest : List Oper} {k e : TypeId}

def NewMap (P : Program) (k e : TypeId) : AV → List HE → Prop := fun v Hn => ∃ b, v = .val (.map (some b)) ∧ Hn = [mapHE P k e b []]
end
end Go.Proofs.YtoonnnifelnaiaaGreatDoor.A

namespace Go.Proofs.YtoonnnifelnaiaaGreatDoor.By
open Go.RowKit L A
set_option linter.unusedVariables false
set_option maxRecDepth 20000
set_option linter.unusedSimpArgs false
structure Wt where
 peer : Int
 m : Msg
 due : Int
 sent : Int
 deriving DecidableEq
structure Us where
 peer : Int
 id : Int
 till : Int
 deriving DecidableEq
structure Hd where
 peer : Int
 id : Int
 till : Int
 ans : Bool
 m : Msg
 deriving DecidableEq
structure Ep where
 next : Int
 out : List Wt
 used : List Us
 inn : List Hd
 deriving DecidableEq
def Wt.none : Wt := ⟨0, Msg.none, 0, 0⟩
def Us.none : Us := ⟨0, 0, 0⟩
def Hd.none : Hd := ⟨0, 0, 0, false, Msg.none⟩
def Ep.none : Ep := ⟨0, [], [], []⟩
abbrev cW (w : Wt) : List AV := [.val (.int .i64 w.peer), .val (.int .i64 w.m.ty), .val (.int .i64 w.m.code), .val (.int .i64 w.m.id), roB w.m.tok, roO w.m.opts, roB w.m.pay, .val (.int .i64 w.due), .val (.int .i64 w.sent)]
abbrev cU (u : Us) : List AV := [.val (.int .i64 u.peer), .val (.int .i64 u.id), .val (.int .i64 u.till)]
abbrev cH (h : Hd) : List AV := [.val (.int .i64 h.peer), .val (.int .i64 h.id), .val (.int .i64 h.till), .val (.bool h.ans), .val (.int .i64 h.m.ty), .val (.int .i64 h.m.code), .val (.int .i64 h.m.id), roB h.m.tok, roO h.m.opts, roB h.m.pay]
def cellsW (w : Wt) : List AV := cW w
def cellsU (u : Us) : List AV := cU u
def cellsH (h : Hd) : List AV := cH h
theorem cellsW_len (w : Wt) : (cellsW w).length = 9 := rfl
theorem cellsU_len (w : Us) : (cellsU w).length = 3 := rfl
theorem cellsH_len (w : Hd) : (cellsH w).length = 10 := rfl
def wtsA (l : List Wt) : List AV := l.flatMap cellsW
def ussA (l : List Us) : List AV := l.flatMap cellsU
def hdsA (l : List Hd) : List AV := l.flatMap cellsH
def roW (l : List Wt) : AV := .ro false l.length (wtsA l)
def roU (l : List Us) : AV := .ro false l.length (ussA l)
def roH (l : List Hd) : AV := .ro false l.length (hdsA l)
abbrev aggW (w : Wt) : AV := .agg (cW w)
abbrev aggU (u : Us) : AV := .agg (cU u)
abbrev aggH (h : Hd) : AV := .agg (cH h)
abbrev aggE (e : Ep) : AV := .agg [.val (.int .i64 e.next), roW e.out, roU e.used, roH e.inn]
abbrev wt (l : List Wt) (k : Nat) : Wt := l.getD k Wt.none
abbrev us (l : List Us) (k : Nat) : Us := l.getD k Us.none
abbrev hd (l : List Hd) (k : Nat) : Hd := l.getD k Hd.none
@[simp] theorem wtsA_len (l : List Wt) : (wtsA l).length = l.length * 9 := flat_len cellsW_len l
@[simp] theorem ussA_len (l : List Us) : (ussA l).length = l.length * 3 := flat_len cellsU_len l
@[simp] theorem hdsA_len (l : List Hd) : (hdsA l).length = l.length * 10 := flat_len cellsH_len l
/-! ### What is valid -/
abbrev PeerOk (p : Int) : Prop := 0 ≤ p ∧ p ≤ 65536
abbrev IdOk (p : Int) : Prop := 0 ≤ p ∧ p ≤ 65535
abbrev TimeOk (p : Int) : Prop := 0 ≤ p ∧ p ≤ 1073741824
abbrev OkW (w : Wt) : Prop := PeerOk w.peer ∧ w.m.ty = 0 ∧ ValM w.m ∧ 0 ≤ w.due ∧ 1 ≤ w.sent ∧ w.sent ≤ 5
abbrev OkU (u : Us) : Prop := PeerOk u.peer ∧ IdOk u.id ∧ 0 ≤ u.till
abbrev OkH (h : Hd) : Prop := PeerOk h.peer ∧ IdOk h.id ∧ 0 ≤ h.till ∧ (h.ans = true → ValM h.m) ∧ (h.ans = false → h.m = Msg.none)
abbrev kWt (w : Wt) : Int × Int := (w.peer, w.m.id)
abbrev kHd (h : Hd) : Int × Int := (h.peer, h.id)
def ValE (e : Ep) : Prop := IdOk e.next ∧ e.out.length ≤ 16 ∧ e.used.length ≤ 32 ∧ e.inn.length ≤ 16 ∧ (∀ w ∈ e.out, OkW w) ∧ (e.out.map kWt).Nodup ∧ (∀ u ∈ e.used, OkU u) ∧ (∀ h ∈ e.inn, OkH h) ∧ (e.inn.map kHd).Nodup
instance (e : Ep) : Decidable (ValE e) := by unfold ValE; infer_instance
/-- The first k are valid. -/
abbrev WOkTo (l : List Wt) (k : Nat) : Prop := (∀ w ∈ l.take k, OkW w) ∧ ((l.take k).map kWt).Nodup
abbrev HOkTo (l : List Hd) (k : Nat) : Prop := (∀ w ∈ l.take k, OkH w) ∧ ((l.take k).map kHd).Nodup
theorem nodup_snoc {α : Type} [DecidableEq α] {l : List α} {a : α} : (l ++ [a]).Nodup ↔ l.Nodup ∧ a ∉ l := by
 rw [List.nodup_append]
 constructor
 ·rintro ⟨h1, _, h3⟩; exact ⟨h1, fun h => h3 a h a (by simp) rfl⟩
 ·rintro ⟨h1, h2⟩; refine ⟨h1, by simp, fun x hx y hy => ?_⟩
  obtain rfl : y = a := by simpa using hy
  rintro rfl; exact h2 hx
theorem mem_take_snoc {α : Type} (d : α) {l : List α} {k : Nat} (h : k < l.length) (p : α → Prop) : (∀ w ∈ l.take (k + 1), p w) ↔ (∀ w ∈ l.take k, p w) ∧ p (l.getD k d) := by
 rw [take_snoc d h]; constructor
 ·intro hh; exact ⟨fun w hw => hh w (List.mem_append_left _ hw), hh _ (by simp)⟩
 ·rintro ⟨h1, h2⟩ w hw
  rcases List.mem_append.1 hw with hw | hw
  ·exact h1 w hw
  ·obtain rfl : w = _ := by simpa using hw
   exact h2
theorem WOkTo.succ {l : List Wt} {k : Nat} (h : k < l.length) : WOkTo l (k + 1) ↔ WOkTo l k ∧ OkW (wt l k) ∧ kWt (wt l k) ∉ (l.take k).map kWt := by
 refine (and_congr (mem_take_snoc Wt.none h OkW) Iff.rfl).trans ?_
 rw [take_snoc Wt.none h, List.map_append, List.map_singleton, nodup_snoc]
 constructor
 ·rintro ⟨⟨h1, h2⟩, h3, h4⟩; exact ⟨⟨h1, h3⟩, h2, h4⟩
 ·rintro ⟨⟨h1, h3⟩, h2, h4⟩; exact ⟨⟨h1, h2⟩, h3, h4⟩
theorem HOkTo.succ {l : List Hd} {k : Nat} (h : k < l.length) : HOkTo l (k + 1) ↔ HOkTo l k ∧ OkH (hd l k) ∧ kHd (hd l k) ∉ (l.take k).map kHd := by
 refine (and_congr (mem_take_snoc Hd.none h OkH) Iff.rfl).trans ?_
 rw [take_snoc Hd.none h, List.map_append, List.map_singleton, nodup_snoc]
 constructor
 ·rintro ⟨⟨h1, h2⟩, h3, h4⟩; exact ⟨⟨h1, h3⟩, h2, h4⟩
 ·rintro ⟨⟨h1, h3⟩, h2, h4⟩; exact ⟨⟨h1, h2⟩, h3, h4⟩
theorem WOkTo.mono {l : List Wt} {k : Nat} (h : k ≤ l.length) (hh : WOkTo l l.length) : WOkTo l k := by
 rw [WOkTo, List.take_length] at hh
 refine ⟨fun w hw => hh.1 w (List.mem_of_mem_take hw), ?_⟩
 rw [List.map_take]; exact hh.2.sublist (List.take_sublist _ _)
theorem HOkTo.mono {l : List Hd} {k : Nat} (h : k ≤ l.length) (hh : HOkTo l l.length) : HOkTo l k := by
 rw [HOkTo, List.take_length] at hh
 refine ⟨fun w hw => hh.1 w (List.mem_of_mem_take hw), ?_⟩
 rw [List.map_take]; exact hh.2.sublist (List.take_sublist _ _)
/-! ### A map of the keys that were met -/
theorem arr2 : Go.WideMaps.ArrKey Tryz.prog 179 3 2 := ⟨Tryz.underlying179, by kernel_rfl, by kernel_rfl, by kernel_rfl⟩
instance : KeyT Tryz.prog 179 := ⟨Go.Maps.Keyed.of_law arr2.law⟩
instance : ZeroT Tryz.prog 4 (.bool false) := ⟨fun W => by kernel_rfl⟩
theorem keyOf2 {a b : Int} (ha : (Lit.int .i64 a).wf = true) (hb : (Lit.int .i64 b).wf = true) : keyOf Tryz.prog 179 (.agg #[.int .i64 a, .int .i64 b]) = some (key2 a b) :=
 Go.WideMaps.keyOf_pair arr2 Tryz.underlying3 ⟨Tryz.prog.types.size - 1, by kernel_rfl⟩ ha hb
def In (z : Int) : Prop := -9223372036854775808 ≤ z ∧ z ≤ 9223372036854775807
theorem key2_inj {a b a' b' : Int} (ha : In a) (hb : In b) (ha' : In a') (hb' : In b') : key2 a b = key2 a' b' ↔ a = a' ∧ b = b' := by
 constructor
 ·intro h
  have h1 := keyOf2 (wfI64 ha) (wfI64 hb)
  have h2 := keyOf2 (wfI64 ha') (wfI64 hb')
  rw [← h] at h2
  have := (Go.Maps.Keyed.of_law arr2.law).inj h1 h2
  simpa using this
 ·rintro ⟨rfl, rfl⟩; rfl
theorem isKey2 (a b : Int) : WideAt.IsKeyLit (key2 a b) := by unfold key2; trivial
abbrev mapK (b : Nat) (M : Ents) : HE := mapHE Tryz.prog 179 4 b M
theorem mGet_same {M : Ents} {k v z : Lit} (hk : WideAt.IsKeyLit k) : mGet (mPut M k v) k z = v := by
 unfold mGet mPut mDel
 rw [List.find?_cons, show ((k, v) : Lit × Lit).1 = k from rfl, WideAt.sameKey_self hk]
theorem mGet_other {M : Ents} {k v z k' : Lit} (hk : WideAt.IsKeyLit k) (hk' : WideAt.IsKeyLit k') (h : k ≠ k') : mGet (mPut M k v) k' z = mGet M k' z := by
 have h1 : k.sameKey k' = false := by
  cases hb : k.sameKey k' with
  | false => rfl
  | true => exact absurd ((WideAt.sameKey_iff hk').1 hb) h
 unfold mGet mPut mDel
 rw [List.find?_cons, show ((k, v) : Lit × Lit).1 = k from rfl, h1, List.find?_filter]
 have e : (fun p : Lit × Lit => decide ((!p.1.sameKey k) = true ∧ p.1.sameKey k' = true)) = fun p => p.1.sameKey k' := by
  funext p
  cases hb : p.1.sameKey k' with
  | false => simp
  | true =>
   have h2 := (WideAt.sameKey_iff hk').1 hb
   have h3 : p.1.sameKey k = false := by
    cases hc : p.1.sameKey k with
    | false => rfl
    | true => exact absurd (((WideAt.sameKey_iff hk).1 hc).symm.trans h2) h
   simp [h3]
 rw [e]
theorem mPut_len (M : Ents) (k v : Lit) : (mPut M k v).length ≤ M.length + 1 := by
 have : (mDel M k).length ≤ M.length := List.length_filter_le _ M
 simp [mPut]; exact this
structure Seen (M : Ents) (ps : List (Int × Int)) : Prop where
 has : ∀ a b, In a → In b → mBool (mGet M (key2 a b) (.bool false)) = decide ((a, b) ∈ ps)
 len : M.length ≤ ps.length
theorem Seen.nil : Seen [] [] := ⟨fun a b _ _ => rfl, Nat.le_refl _⟩
theorem Seen.put {M : Ents} {ps : List (Int × Int)} (h : Seen M ps) {a b : Int} (ha : In a) (hb : In b) : Seen (mPut M (key2 a b) (.bool true)) (ps ++ [(a, b)]) := by
 refine ⟨fun a' b' ha' hb' => ?_, ?_⟩
 ·by_cases he : key2 a b = key2 a' b'
  ·obtain ⟨rfl, rfl⟩ := (key2_inj ha hb ha' hb').1 he
   rw [mGet_same (isKey2 _ _)]; simp [mBool]
  ·rw [mGet_other (isKey2 _ _) (isKey2 _ _) he, h.has a' b' ha' hb']
   refine decide_eq_decide.2 ?_
   rw [List.mem_append]
   constructor
   ·exact .inl
   ·rintro (h1 | h1)
    ·exact h1
    ·have h2 : (a', b') = (a, b) := by simpa using h1
     cases h2
     exact absurd rfl he
 ·have := mPut_len M (key2 a b) (.bool true)
  have := h.len
  rw [List.length_append, List.length_singleton]; omega
end Go.Proofs.YtoonnnifelnaiaaGreatDoor.By

namespace Go.Proofs.YtoonnnifelnaiaaGreatDoor.By
open Go.RowKit L A
set_option linter.unusedVariables false
set_option maxRecDepth 20000
set_option linter.unusedSimpArgs false
attribute [local irreducible] AW AQ AO

end Go.Proofs.YtoonnnifelnaiaaGreatDoor.By

namespace Go.Proofs.YtoonnnifelnaiaaGreatDoor.By
open Go.RowKit L A
set_option linter.unusedVariables false
set_option maxRecDepth 20000
set_option linter.unusedSimpArgs false
attribute [local irreducible] AW AQ AO

theorem clone_fn (l : List UInt8) (hl : l.length ≤ 140737488355328) : Sp Tryz.prog 49 [roB l] [] (Is (roB l)) := by
 refine Sp.enter Tryz.func49 rfl _ Tryz.ntmps49 rfl (fun w0 R0 => ?_)
 refine AW.seq ?_
 refine AW.region ?_
 refine AO.op (O.assign rfl rfl) rfl rfl rfl ?_
 refine AO.nil ?_
 refine AQ.thenN ?_
 refine AW.seq ?_
 refine AW.seq ?_
 refine AW.region ?_
 refine AO.op (O.move rfl rfl) rfl rfl rfl ?_
 refine AO.opN (O.eqlNil rfl rfl rfl) rfl rfl rfl ?_
 rintro _ _ ⟨c, rfl, rfl, hnil⟩
 simp only [List.cons_append, List.nil_append]
 refine AO.nil ?_
 refine AQ.thenN ?_
 refine AW.split rfl (fun h => ?_) (fun h => ?_)
 ·skip
  obtain rfl : l = [] := List.eq_nil_of_length_eq_zero (hnil (by simp [h]))
  refine AW.seq ?_
  refine AW.region ?_
  refine AO.op (O.assign rfl rfl) rfl rfl rfl ?_
  refine AO.nil ?_
  refine AQ.thenN ?_
  refine AW.ret ?_
  refine AQ.thenR ?_
  refine AQ.g ?_
  refine G.nilRo 2 rfl ?_
  refine AQ.u ?_
  refine AQ.ret1 rfl rfl ⟨_, List.nil_sublist _, .nil⟩ (⟨rfl, rfl⟩)
 ·skip
  refine AW.skip ?_
  refine AQ.thenN ?_
  refine AW.seq ?_
  refine AW.region ?_
  refine AO.opRow (O.buildSlice0 rfl) rfl rfl rfl ?_
  intro V hV
  refine AO.op (O.move rfl rfl) rfl rfl rfl ?_
  (refine AO.append' (i := 0) rfl rfl rfl rfl (by rfl) (by rfl) rfl rfl rfl (by exact SrcA.ro TyD.ax (by (simp; done)) (Nat.le_of_ble_eq_true rfl)) (by (simp [AV.cells, AV.one, *]; done)) (by (unfold maxLen; omega)) (by omega) (by (dsimp only [List.set, List.append, List.cons_append, List.nil_append, roB_cells, roI_cells, roO_cells, splice, ofConst, AV.cells, List.map, List.map_cons, List.map_nil, List.take, List.drop, Nat.zero_add, Nat.add_zero, Nat.reduceAdd, Nat.reduceMul, Nat.zero_mul, Value.cells, List.toList_toArray, zerosA, List.replicate, List.flatten, List.append_nil]; done)) (fun _ => by (dsimp only [List.set]; done)) ?_)
  intro V hV
  refine AO.op (O.assign rfl rfl) rfl rfl rfl ?_
  refine AO.nil ?_
  refine AQ.thenN ?_
  refine AW.ret ?_
  refine AQ.g ?_
  refine G.freezeRow 0 rfl [2] (by repeat (first | exact frNil | refine frCons rfl ?_)) ?_
  refine AQ.u ?_
  dsimp only [List.map, List.eraseIdx, List.cons_append, List.nil_append]
  refine AQ.ret1 rfl rfl ⟨_, List.nil_sublist _, .nil⟩ (⟨by simp [roB], rfl⟩)
def reqB (c : Int) : Bool := decide (1 ≤ c ∧ c ≤ 31)
def respB (c : Int) : Bool := decide (64 ≤ c ∧ c ≤ 95 ∨ 128 ≤ c ∧ c ≤ 191)
theorem resp_fn (c : Int) : Sp Tryz.prog 59 [.val (.int .i64 c)] [] (Is (.val (.bool (respB c)))) := by
 refine Sp.enter Tryz.func59 rfl _ Tryz.ntmps59 rfl (fun w0 R0 => ?_)
 refine AW.seq ?_
 refine AW.region ?_
 refine AO.op (O.assign rfl rfl) rfl rfl rfl ?_
 refine AO.nil ?_
 refine AQ.thenN ?_
 refine AW.seq ?_
 refine AW.region ?_
 refine AO.op (O.move rfl rfl) rfl rfl rfl ?_
 refine AO.op (O.geq rfl rfl rfl (by rfl)) rfl rfl rfl ?_
 refine AO.op (O.move rfl rfl) rfl rfl rfl ?_
 refine AO.opG rfl rfl rfl (fun hp => O.move rfl rfl) ?_
 refine AO.opG rfl rfl rfl (fun hp => OpW.force 6 rfl (by exact hp) (O.leq rfl rfl rfl (by rfl))) ?_
 refine AO.op (O.pickAnd rfl rfl rfl rfl (fun h => by exact h)) rfl rfl rfl ?_
 refine AO.op (O.move rfl rfl) rfl rfl rfl ?_
 refine AO.opG rfl rfl rfl (fun hp => O.move rfl rfl) ?_
 refine AO.opG rfl rfl rfl (fun hp => OpW.force 10 rfl (by exact hp) (O.geq rfl rfl rfl (by rfl))) ?_
 refine AO.opG rfl rfl rfl (fun hp => OpW.force 11 rfl (by exact hp) (O.move rfl rfl)) ?_
 refine AO.opG rfl rfl rfl (fun hp => O.move rfl rfl) ?_
 refine AO.opG rfl rfl rfl (fun hp => OpW.force 13 rfl (by exact hp) (O.leq rfl rfl rfl (by rfl))) ?_
 refine AO.opG rfl rfl rfl (fun hp => OpW.force 12 rfl (by exact hp) (O.pickAnd rfl rfl rfl rfl (fun h => by simp_all))) ?_
 refine AO.op (O.pickOr rfl rfl rfl rfl (fun h => by exact congrArg (fun b => !b) h)) rfl rfl rfl ?_
 refine AO.op (O.assign rfl rfl) rfl rfl rfl ?_
 refine AO.nil ?_
 refine AQ.thenN ?_
 refine AW.ret ?_
 have e : respB c = (decide (64 ≤ c) && decide (c ≤ 95) || decide (128 ≤ c) && decide (c ≤ 191)) := dec_eq (by simp)
 refine AQ.ret1 rfl rfl ⟨_, List.nil_sublist _, .nil⟩ (⟨congrArg (fun z => AV.val (.bool z)) e.symm, rfl⟩)
def SmM (m : Msg) : Prop := m.tok.length ≤ 140737488355328 ∧ m.pay.length ≤ 140737488355328 ∧ m.opts.length ≤ 1000000 ∧ ∀ o ∈ m.opts, o.val.length ≤ 140737488355328
theorem SmM.at {m : Msg} (h : SmM m) {k : Nat} (hk : k < m.opts.length) : (oat m.opts k).val.length ≤ 140737488355328 := h.2.2.2 _ (getD_mem _ hk)
end Go.Proofs.YtoonnnifelnaiaaGreatDoor.By

namespace Go.Proofs.YtoonnnifelnaiaaGreatDoor.By
open Go.RowKit L A
set_option linter.unusedVariables false
set_option maxRecDepth 20000
set_option linter.unusedSimpArgs false
attribute [local irreducible] AW AQ AO
def replyM (m : Msg) (code : Int) (os : List Opt) (pay : List UInt8) : Msg := ⟨if m.ty = 0 then 2 else 1, code, if m.ty = 0 then m.id else 0, m.tok, os, pay⟩
def replyR (m : Msg) (code : Int) (os : List Opt) (pay : List UInt8) : Msg × Int :=
 if ValM m ∧ reqB m.code = true then (if respB code = true ∧ ValM (replyM m code os pay) then (replyM m code os pay, 0) else (Msg.none, 4)) else (Msg.none, 1)
abbrev resM (r : Msg × Int) : AV := .tup [aggM r.1, .val (.int .i64 r.2)]
end Go.Proofs.YtoonnnifelnaiaaGreatDoor.By

namespace Go.Proofs.YtoonnnifelnaiaaGreatDoor.By
open Go.RowKit L A
set_option linter.unusedVariables false
set_option maxRecDepth 20000
set_option linter.unusedSimpArgs false
attribute [local irreducible] AW AQ AO
def BdM (m : Msg) : Prop := m.tok.length ≤ 140737488355328 ∧ m.opts.length ≤ 140737488355328 ∧ m.pay.length ≤ 140737488355328
theorem isNone (m : Msg) : m = Msg.none ↔ m.ty = 0 ∧ m.code = 0 ∧ m.id = 0 ∧ m.tok.length + m.opts.length + m.pay.length = 0 := by
 obtain ⟨a, b, c, d, e, f⟩ := m
 unfold Msg.none
 simp only [Msg.mk.injEq]
 constructor
 ·rintro ⟨rfl, rfl, rfl, rfl, rfl, rfl⟩; simp
 ·rintro ⟨h1, h2, h3, h4⟩; exact ⟨h1, h2, h3, List.eq_nil_of_length_eq_zero (by omega), List.eq_nil_of_length_eq_zero (by omega), List.eq_nil_of_length_eq_zero (by omega)⟩
end Go.Proofs.YtoonnnifelnaiaaGreatDoor.By

namespace Go.Proofs.YtoonnnifelnaiaaGreatDoor.By
open Go.RowKit L A
set_option linter.unusedVariables false
set_option maxRecDepth 20000
set_option linter.unusedSimpArgs false
attribute [local irreducible] AW AQ AO
abbrev chW (w : Wt) : Bool := !decide (PeerOk w.peer) || w.m.ty != 0 || !decide (ValM w.m) || decide (w.due < 0) || decide (w.sent < 1) || decide (5 < w.sent)
theorem ValM.id {m : Msg} (h : ValM m) : 0 ≤ m.id ∧ m.id ≤ 65535 := by
 obtain ⟨⟨-, ⟨h1, h2, -, -⟩, -⟩, -⟩ := h
 exact ⟨h1, h2⟩
theorem OkW.in {w : Wt} (h : OkW w) : In w.peer ∧ In w.m.id := by
 obtain ⟨h1, -, h3, -⟩ := h
 have := ValM.id h3
 unfold In; omega
abbrev chH (h : Hd) : Bool := !decide (PeerOk h.peer) || !decide (IdOk h.id) || decide (h.till < 0)
abbrev OkH0 (h : Hd) : Prop := PeerOk h.peer ∧ IdOk h.id ∧ 0 ≤ h.till
theorem OkH0.in {h : Hd} (hh : OkH0 h) : In h.peer ∧ In h.id := by
 obtain ⟨h1, h2, -⟩ := hh
 unfold In; omega
end Go.Proofs.YtoonnnifelnaiaaGreatDoor.By

namespace Go.Proofs.YtoonnnifelnaiaaGreatDoor.By
open Go.RowKit L A
set_option linter.unusedVariables false
set_option maxRecDepth 20000
set_option linter.unusedSimpArgs false
attribute [local irreducible] AW AQ AO
def BdE (e : Ep) : Prop := e.out.length ≤ 140737488355328 ∧ e.used.length ≤ 140737488355328 ∧ e.inn.length ≤ 140737488355328 ∧ ∀ h ∈ e.inn, BdM h.m
abbrev UOkTo (l : List Us) (k : Nat) : Prop := ∀ u ∈ l.take k, OkU u
theorem UOkTo.succ {l : List Us} {k : Nat} (h : k < l.length) : UOkTo l (k + 1) ↔ UOkTo l k ∧ OkU (us l k) := mem_take_snoc Us.none h OkU
theorem UOkTo.mono {l : List Us} {k : Nat} (hh : UOkTo l l.length) : UOkTo l k := fun w hw => hh w (by rw [List.take_length]; exact List.mem_of_mem_take hw)
abbrev chU (u : Us) : Bool := !decide (PeerOk u.peer) || !decide (IdOk u.id) || decide (u.till < 0)
end Go.Proofs.YtoonnnifelnaiaaGreatDoor.By

namespace Go.Proofs.YtoonnnifelnaiaaGreatDoor.By
open Go.RowKit L A
set_option linter.unusedVariables false
set_option maxRecDepth 20000
set_option linter.unusedSimpArgs false
attribute [local irreducible] AW AQ AO
end Go.Proofs.YtoonnnifelnaiaaGreatDoor.By

namespace Go.Proofs.YtoonnnifelnaiaaGreatDoor.By
open Go.RowKit L A
set_option linter.unusedVariables false
set_option maxRecDepth 20000
set_option linter.unusedSimpArgs false
attribute [local irreducible] AW AQ AO
abbrev zO : Value := .agg #[.int .i64 0, .slice none 0 0]
def zOpts (n : Nat) : List AV := zerosA n zO
end Go.Proofs.YtoonnnifelnaiaaGreatDoor.By

namespace Go.Proofs.YtoonnnifelnaiaaGreatDoor.By
open Go.RowKit L A Dk
set_option linter.unusedVariables false
set_option maxRecDepth 20000
set_option linter.unusedSimpArgs false
attribute [local irreducible] AW AQ AO
/-! ### copied -/
abbrev zI : Value := .agg #[.int .i64 0, .int .u64 0, .slice none 0 0, .slice none 0 0]
def zIts (n : Nat) : List AV := zerosA n zI
theorem zeros_it (n : Nat) : zIts (n + 1) = .val (.int .i64 0) :: .val (.int .u64 0) :: .val (.slice none 0 0) :: .val (.slice none 0 0) :: zIts n := by
 unfold zIts zerosA
 rw [List.replicate_succ, List.flatten_cons]
 rfl
theorem zerosIt_len (n : Nat) : (zIts n).length = n * 4 := by
 induction n with
 | zero => rfl
 | succ n ih => rw [zeros_it]; simp only [List.length_cons, ih]; omega
theorem itsA_snoc (l : List It) (x : It) : itsA (l ++ [x]) = itsA l ++ x.cells := by rw [itsA_eq, itsA_eq, List.flatMap_append]; simp
theorem splice_it {l : List It} {q : Nat} (h : q < l.length) {j : Nat} (hj : j = q * 4) {ys : List AV} (hy : ys = (itat l q).cells) : splice (itsA (l.take q) ++ zIts (l.length - q)) j ys = itsA (l.take (q + 1)) ++ zIts (l.length - (q + 1)) := by
 have hl : (itsA (l.take q)).length = q * 4 := by rw [itsA_len, List.length_take]; omega
 obtain ⟨m, hm⟩ : ∃ m, l.length - q = m + 1 := ⟨l.length - q - 1, by omega⟩
 have hcl := cells_len (itat l q)
 rw [hj, ← hl, hy, splice_pre _ _ _ (by rw [hcl, zerosIt_len]; omega), take_snoc itN h, itsA_snoc, hcl, hm, show l.length - (q + 1) = m by omega, zeros_it]
 rfl
abbrev CopSp (x : It) : Prop := Sp Tryz.prog 89 [.agg x.cells] [] (Is (.agg x.cells))
set_option maxHeartbeats 4000000 in
theorem ccopied_node {k n : Int} {b : List UInt8} {l : List It} (hb : b.length ≤ 1000) (hm : l.length < 24) (hS : ∀ q, q < l.length → CopSp (itat l q)) : CopSp (.mk k n b l) := by
 unfold CopSp
 rw [It.cells]
 refine Sp.enter Tryz.func89 rfl _ Tryz.ntmps89 rfl (fun w0 R0 => ?_)
 refine AW.seq ?_
 refine AW.region ?_
 refine AO.opB (O.box rfl rfl rfl rfl rfl) rfl rfl rfl ?_
 intro B1
 refine AO.opB (O.alloc rfl (by (dsimp only [zerosA, List.replicate, List.append, List.flatten, AV.cells, Value.cells, List.toList_toArray, List.map]; done)) (by rfl)) rfl rfl rfl ?_
 intro B2
 refine AO.nil ?_
 refine AQ.thenN ?_
 refine AW.seq ?_
 refine AW.region ?_
 refine AO.op (O.fieldAddr rfl rfl) rfl rfl rfl ?_
 refine AO.op (O.load rfl rfl (by repeat (first | exact List.Mem.head _ | refine List.Mem.tail _ ?_)) (by rfl)) rfl rfl rfl ?_
 refine AO.op (O.call rfl Tryz.func49 rfl rfl rfl (clone_fn _ (by omega))) rfl rfl rfl ?_
 refine AO.op (O.fieldAddr rfl rfl) rfl rfl rfl ?_
 (refine AO.store (i := 1) rfl rfl rfl rfl rfl rfl (by rfl) (by rfl) (by rfl) (by (dsimp only [List.set, List.cons_append, List.nil_append, List.take, List.drop]; done)) (by (dsimp only [List.set, List.cons_append, List.nil_append, List.take, List.drop]; done)) ?_)
 refine AO.nil ?_
 refine AQ.thenN ?_
 refine AW.seq ?_
 refine AW.region ?_
 refine AO.op (O.fieldAddr rfl rfl) rfl rfl rfl ?_
 refine AO.op (O.load rfl rfl (by repeat (first | exact List.Mem.head _ | refine List.Mem.tail _ ?_)) (by rfl)) rfl rfl rfl ?_
 refine AO.op (O.lenR rfl rfl) rfl rfl rfl ?_
 refine AO.opB (O.makeSlice rfl rfl rfl (by rfl) (by rfl) (by omega) (by (unfold maxLen; omega)) (by rfl)) rfl rfl rfl ?_
 intro B3
 refine AO.op (O.assign rfl rfl) rfl rfl rfl ?_
 refine AO.nil ?_
 refine AQ.thenN ?_
 refine AW.seq ?_
 refine AW.seq ?_
 refine AW.region ?_
 refine AO.op (O.fieldAddr rfl rfl) rfl rfl rfl ?_
 refine AO.op (O.load rfl rfl (by repeat (first | exact List.Mem.head _ | refine List.Mem.tail _ ?_)) (by rfl)) rfl rfl rfl ?_
 refine AO.op (O.lenR rfl rfl) rfl rfl rfl ?_
 refine AO.op (O.move rfl rfl) rfl rfl rfl ?_
 refine AO.nil ?_
 refine AQ.thenN ?_
 refine AW.block ?_
 have hz : (l.take 0 : List It) = [] := rfl
 refine AW.loopK [(1, _), (2, _), (3, _), (15, _), (16, _)] (fun nn E H => ∃ (q : Nat), (q ≤ l.length) ∧ nn = l.length - q ∧ E = [(17, .val (.int .i64 (q : Int)))] ∧ H = [.blk B3 100 (l.length * 4) (itsA (l.take q) ++ zIts (l.length - q)), .blk B2 100 4 [.val (.int .i64 0), .val (.int .u64 0), .val (.slice none 0 0), .val (.slice none 0 0)], .blk B1 100 4 [.val (.int .i64 k), .val (.int .u64 n), roB b, .ro false l.length (itsA l)]]) _ (⟨0, by omega, rfl, rfl, rfl⟩) (by repeat (first | exact envNil | refine envCons rfl ?_)) (by repeat (first | exact envNil | refine envCons rfl ?_)) (by repeat (first | exact subPnil | refine subPcons 0 rfl ?_)) ?_
 rintro nn E H ⟨q, hq, rfl, rfl, rfl⟩
 dsimp only [List.cons_append, List.nil_append]
 refine AW.seq ?_
 refine AW.region ?_
 refine AO.op (O.lss rfl rfl rfl (by rfl)) rfl rfl rfl ?_
 refine AO.nil ?_
 refine AQ.thenN ?_
 refine AW.seq ?_
 refine AW.split rfl (fun hlt => ?_) (fun hlt => ?_) <;> (try simp only [decide_eq_true_eq, decide_eq_false_iff_not, beq_iff_eq, beq_eq_false_iff_ne, bne_iff_ne, bne_eq_false_iff_eq, Bool.not_eq_true', Bool.not_eq_false', Bool.not_eq_true, Bool.not_eq_false, ne_eq, Int.not_lt, Int.not_le, Bool.and_eq_true, Bool.or_eq_true, Bool.or_eq_false_iff, Bool.and_eq_false_imp, strOf_toList, Decidable.not_not] at hlt)
 ·skip
  have hql : q < l.length := by omega
  obtain ⟨kk, nn', bb, ll, hx⟩ : ∃ kk nn' bb ll, itat l q = .mk kk nn' bb ll := by cases h : itat l q; exact ⟨_, _, _, _, rfl⟩
  have hg : ((itsA l).drop (Int.toNat (q : Int) * 4)).take 4 = [.val (.int .i64 kk), .val (.int .u64 nn'), roB bb, .ro false ll.length (itsA ll)] := by
   rw [getIt hql (by omega), hx, It.cells]
  have hSk := hS q hql
  rw [hx] at hSk
  unfold CopSp at hSk
  rw [It.cells] at hSk
  have hbl : (itsA (l.take q) ++ zIts (l.length - q)).length = l.length * 4 := by rw [List.length_append, itsA_len, zerosIt_len, List.length_take]; omega
  have hcl : [.val (.int .i64 kk), .val (.int .u64 nn'), roB bb, .ro false ll.length (itsA ll)] = (itat l q).cells := by rw [hx, It.cells]
  refine AW.skip ?_
  refine AQ.thenN ?_
  refine AW.seq ?_
  refine AW.block ?_
  refine AW.seq ?_
  refine AW.region ?_
  refine AO.op (O.move rfl rfl) rfl rfl rfl ?_
  refine AO.op (O.idxR rfl rfl rfl ⟨(by omega), (by omega)⟩) rfl rfl rfl ?_
  refine AO.op (O.loadRK rfl rfl (by exact hg) (by rfl)) rfl rfl rfl ?_
  refine AO.opB (O.alloc rfl (by (dsimp only [zerosA, List.replicate, List.append, List.flatten, AV.cells, Value.cells, List.toList_toArray, List.map]; done)) (by rfl)) rfl rfl rfl ?_
  intro B4
  refine AO.op (O.assign rfl rfl) rfl rfl rfl ?_
  (refine AO.store (i := 0) rfl rfl rfl rfl rfl rfl (by rfl) (by rfl) (by rfl) (by rfl) (by (dsimp only [List.set, List.cons_append, List.nil_append, List.take, List.drop]; done)) ?_)
  refine AO.nil ?_
  refine AQ.thenN ?_
  refine AW.region ?_
  refine AO.op (O.move rfl rfl) rfl rfl rfl ?_
  refine AO.op (O.move rfl rfl) rfl rfl rfl ?_
  refine AO.op (O.loadK rfl rfl (by repeat (exact List.Mem.head _)) (by rfl) (by rfl)) rfl rfl rfl ?_
  refine AO.op (O.call rfl Tryz.func89 rfl rfl rfl (hSk)) rfl rfl rfl ?_
  refine AO.op (O.idxV rfl rfl rfl ⟨(by omega), (by omega)⟩) rfl rfl rfl ?_
  (refine AO.store (i := 1) rfl rfl rfl rfl rfl rfl (by rfl) (by rfl) (by exact Nat.ble_eq_true_of_le (by rw [hbl]; omega)) (by exact splice_it hql (by omega) hcl) (by (dsimp only [List.set, List.cons_append, List.nil_append, List.take, List.drop]; done)) ?_)
  refine AO.nil ?_
  refine AQ.blockN ?_
  refine AQ.thenN ?_
  refine AW.region ?_
  refine AO.op (O.add rfl rfl rfl (by exact wI64 (by omega))) rfl rfl rfl ?_
  refine AO.op (O.move rfl rfl) rfl rfl rfl ?_
  refine AO.nil ?_
  refine AQ.loopKN _ _ _ (by omega) (⟨q + 1, by omega, rfl, rfl, rfl⟩) (by repeat (first | exact envNil | refine envCons rfl ?_)) (by repeat (first | exact envNil | refine envCons rfl ?_)) (by repeat (first | exact subPnil | refine subPcons 1 rfl ?_))
 ·skip
  obtain rfl : q = l.length := by omega
  rw [List.take_length, Nat.sub_self, show zIts 0 = [] from rfl, List.append_nil]
  refine AW.g ?_
  refine G.closeRow (n := l.length) (sz := 4) (cap := l.length) 0 rfl (itsA_len _) rfl (Nat.le_refl _) (by (unfold maxLen; omega)) ?_
  refine AW.u ?_
  dsimp only [List.set]
  refine AW.g ?_
  (refine G.freezeRow 0 rfl [3] (by (repeat (first | exact frNil | refine frCons rfl ?_)); done) ?_)
  refine AW.u ?_
  try dsimp only [List.map, List.eraseIdx, List.cons_append, List.nil_append]
  refine AW.exit ?_
  refine AQ.thenX ?_
  refine AQ.loopX ?_
  refine AQ.blockX rfl ?_
  refine AQ.thenN ?_
  refine AW.seq ?_
  refine AW.region ?_
  refine AO.op (O.move rfl rfl) rfl rfl rfl ?_
  refine AO.op (O.fieldAddr rfl rfl) rfl rfl rfl ?_
  (refine AO.store (i := 1) rfl rfl rfl rfl rfl rfl (by rfl) (by rfl) (by rfl) (by (dsimp only [List.set, List.cons_append, List.nil_append, List.take, List.drop]; done)) (by (dsimp only [List.set, List.cons_append, List.nil_append, List.take, List.drop]; done)) ?_)
  refine AO.nil ?_
  refine AQ.thenN ?_
  refine AW.seq ?_
  refine AW.seq ?_
  refine AW.region ?_
  refine AO.op (O.move rfl rfl) rfl rfl rfl ?_
  refine AO.op (O.lenR rfl rfl) rfl rfl rfl ?_
  refine AO.op (O.eql rfl rfl rfl (by rfl)) rfl rfl rfl ?_
  refine AO.nil ?_
  refine AQ.thenN ?_
  refine AW.split rfl (fun h0 => ?_) (fun h0 => ?_) <;> (try simp only [decide_eq_true_eq, decide_eq_false_iff_not, beq_iff_eq, beq_eq_false_iff_ne, bne_iff_ne, bne_eq_false_iff_eq, Bool.not_eq_true', Bool.not_eq_false', Bool.not_eq_true, Bool.not_eq_false, ne_eq, Int.not_lt, Int.not_le, Bool.and_eq_true, Bool.or_eq_true, Bool.or_eq_false_iff, Bool.and_eq_false_imp, strOf_toList, Decidable.not_not] at h0)
  ·skip
   have hl0 : l = [] := List.eq_nil_of_length_eq_zero (by omega)
   subst hl0
   rw [show itsA [] = [] by rw [itsA]]
   refine AW.region ?_
   refine AO.op (O.fieldAddr rfl rfl) rfl rfl rfl ?_
   (refine AO.store (i := 1) rfl rfl rfl rfl rfl rfl (by rfl) (by rfl) (by rfl) (by (dsimp only [List.set, List.cons_append, List.nil_append, List.take, List.drop]; done)) (by (dsimp only [List.set, List.cons_append, List.nil_append, List.take, List.drop]; done)) ?_)
   refine AO.nil ?_
   refine AQ.thenN ?_
   refine AW.seq ?_
   refine AW.region ?_
   (refine AO.op (O.loadK rfl rfl (by repeat (first | exact List.Mem.head _ | refine List.Mem.tail _ ?_)) (by (dsimp only [List.set, List.cons_append, List.nil_append, List.take, List.drop]; done)) (by rfl)) rfl rfl rfl ?_)
   (refine AO.store (i := 0) rfl rfl rfl rfl rfl rfl (by rfl) (by rfl) (by rfl) (by (dsimp only [List.set, List.cons_append, List.nil_append, List.take, List.drop]; done)) (by (dsimp only [List.set, List.cons_append, List.nil_append, List.take, List.drop]; done)) ?_)
   refine AO.nil ?_
   refine AQ.thenN ?_
   refine AW.ret ?_
   refine FnQ.coe (AQ.retCell rfl rfl (by repeat (exact List.Mem.head _)) (by (dsimp only [List.set, List.cons_append, List.nil_append, List.take, List.drop]; done)) (by rfl) ⟨_, List.nil_sublist _, .nil⟩ ⟨rfl, rfl⟩) (Coe.agg (by (repeat (first | exact CoeL.nil | refine CoeL.cons Coe.rfl ?_ | refine CoeL.cons Coe.nil ?_)); done)) (⟨rfl, rfl⟩)
  ·skip
   refine AW.skip ?_
   refine AQ.thenN ?_
   refine AW.seq ?_
   refine AW.region ?_
   (refine AO.op (O.loadK rfl rfl (by repeat (first | exact List.Mem.head _ | refine List.Mem.tail _ ?_)) (by (dsimp only [List.set, List.cons_append, List.nil_append, List.take, List.drop]; done)) (by rfl)) rfl rfl rfl ?_)
   (refine AO.store (i := 0) rfl rfl rfl rfl rfl rfl (by rfl) (by rfl) (by rfl) (by (dsimp only [List.set, List.cons_append, List.nil_append, List.take, List.drop]; done)) (by (dsimp only [List.set, List.cons_append, List.nil_append, List.take, List.drop]; done)) ?_)
   refine AO.nil ?_
   refine AQ.thenN ?_
   refine AW.ret ?_
   refine AQ.retCell rfl rfl (by repeat (exact List.Mem.head _)) (by rfl) rfl ⟨_, List.nil_sublist _, .nil⟩ (⟨rfl, rfl⟩)
theorem ccopied_fn : ∀ (d : Nat) (x : It), x.ok d → CopSp x
 | 0, .mk k n b l, h => by
  obtain ⟨rfl, h⟩ := h
  have hb : b.length ≤ 1000 := by
   rcases h with ⟨-, -, -, rfl⟩ | ⟨-, -, h⟩
   ·simp
   ·omega
  exact ccopied_node hb (by simp) (fun q hq => absurd hq (by simp))
 | d + 1, .mk k n b l, h => by
  rcases h with ⟨rfl, h⟩ | ⟨rfl, rfl, rfl, h4, h5⟩
  ·have hb : b.length ≤ 1000 := by
    rcases h with ⟨-, -, -, rfl⟩ | ⟨-, -, h⟩
    ·simp
    ·omega
   exact ccopied_node hb (by simp) (fun q hq => absurd hq (by simp))
  ·exact ccopied_node (by simp) h4 fun q hq => ccopied_fn d _ (h5 _ (getD_mem itN hq))
/-! ### add -/
def AddP (o : List UInt8) : AV → List HE → Prop := fun r H' => ∃ V', V'.oneCell' = true ∧ r = .val V' ∧ H' = [.row V' 5 1 o.length (bytesA o)]
abbrev AddSp (x : It) : Prop := ∀ (V : Value) (o : List UInt8), V.oneCell' = true → o.length + x.enc.length ≤ 100000 → Sp Tryz.prog 91 [.val V, .agg x.cells] [.row V 5 1 o.length (bytesA o)] (AddP (o ++ x.enc))
set_option maxHeartbeats 4000000 in
theorem add_node {k n : Int} {b : List UInt8} {l : List It} (hk6 : 0 ≤ k ∧ k ≤ 7) (hk : k < 7) (hn24 : 0 ≤ hnI k n b l.length ∧ hnI k n b l.length < 24)
  (hmaj : Sp Tryz.prog 114 [.agg [.val (.int .i64 k), .val (.int .u64 n), roB b, .ro false l.length (itsA l)]] [] (Is (.tup [.val (.int .u8 k), .val (.int .u64 (hnI k n b l.length))])))
  (hm : l.length < 24) (hS : ∀ q, q < l.length → AddSp (itat l q)) : AddSp (.mk k n b l) := by
 intro V o hV hle
 rw [It.enc, List.length_cons, List.length_append] at hle
 rw [It.cells, It.enc]
 refine Sp.enter Tryz.func91 rfl _ Tryz.ntmps91 rfl (fun w0 R0 => ?_)
 refine AW.seq ?_
 refine AW.region ?_
 refine AO.opB (O.box rfl rfl rfl rfl rfl) rfl rfl rfl ?_
 intro B1
 refine AO.op (O.assign rfl rfl) rfl rfl rfl ?_
 refine AO.nil ?_
 refine AQ.thenN ?_
 refine AW.seq ?_
 refine AW.block ?_
 refine AW.seq ?_
 refine AW.region ?_
 refine AO.op (O.fieldAddr rfl rfl) rfl rfl rfl ?_
 refine AO.op (O.load rfl rfl (by repeat (exact List.Mem.head _)) (by rfl)) rfl rfl rfl ?_
 refine AO.op (O.eql rfl rfl rfl (by exact beq_eq_false_iff_ne.2 (by omega))) rfl rfl rfl ?_
 refine AO.op (O.assign rfl rfl) rfl rfl rfl ?_
 refine AO.nil ?_
 refine AQ.thenN ?_
 refine AW.condF rfl ?_
 refine AW.seq ?_
 refine AW.region ?_
 refine AO.op (O.fieldAddr rfl rfl) rfl rfl rfl ?_
 refine AO.op (O.load rfl rfl (by repeat (exact List.Mem.head _)) (by rfl)) rfl rfl rfl ?_
 refine AO.op (O.eql rfl rfl rfl (by exact beq_eq_false_iff_ne.2 (by omega))) rfl rfl rfl ?_
 refine AO.op (O.move rfl rfl) rfl rfl rfl ?_
 refine AO.no rfl rfl rfl ?_
 refine AO.no rfl rfl rfl ?_
 refine AO.no rfl rfl rfl ?_
 refine AO.op (O.pickF rfl rfl rfl) rfl rfl rfl ?_
 refine AO.op (O.assign rfl rfl) rfl rfl rfl ?_
 refine AO.nil ?_
 refine AQ.thenN ?_
 refine AW.condF rfl ?_
 refine AW.skip ?_
 refine AQ.blockN ?_
 refine AQ.thenN ?_
 refine AW.seq ?_
 refine AW.region ?_
 refine AO.op (O.move rfl rfl) rfl rfl rfl ?_
 (refine AO.op (O.loadK rfl rfl (by repeat (exact List.Mem.head _)) (by (dsimp only [List.set, List.cons_append, List.nil_append, List.take, List.drop]; done)) (by rfl)) rfl rfl rfl ?_)
 refine AO.op (O.call rfl Tryz.func114 rfl rfl rfl (hmaj)) rfl rfl rfl ?_
 refine AO.op (O.extract rfl rfl rfl) rfl rfl rfl ?_
 refine AO.op (O.extract rfl rfl rfl) rfl rfl rfl ?_
 refine AO.op (O.call rfl Tryz.func113 rfl rfl rfl (head_fn _ _ hk6 hn24)) rfl rfl rfl ?_
 (refine AO.append' (i := 1) rfl rfl rfl rfl (by rfl) (by rfl) rfl rfl rfl (by exact SrcA.ro TyD.ax (by rfl) (Nat.le_of_ble_eq_true rfl)) (by rfl) (by (unfold maxLen; simp only [List.length_take, List.length_drop, List.length_append, List.length_cons, List.length_nil, List.length_set, Nat.zero_add]; omega)) (by (simp only [List.length_take, List.length_drop, List.length_append, List.length_cons, List.length_nil, List.length_set, Nat.zero_add]; omega)) (by (dsimp only [List.set, List.cons_append, List.nil_append, List.take, List.drop]; done)) (fun _ => by (dsimp only [List.set]; done)) ?_)
 intro V2 hV2
 refine AO.op (O.assign rfl rfl) rfl rfl rfl ?_
 refine AO.nil ?_
 refine AQ.thenN ?_
 refine AW.seq ?_
 refine AW.region ?_
 refine AO.op (O.move rfl rfl) rfl rfl rfl ?_
 refine AO.op (O.fieldAddr rfl rfl) rfl rfl rfl ?_
 refine AO.op (O.load rfl rfl (by repeat (exact List.Mem.head _)) (by rfl)) rfl rfl rfl ?_
 (refine AO.append' (i := 1) rfl rfl rfl rfl (by rfl) (by rfl) rfl rfl rfl (by exact SrcA.ro TyD.ax (by (simp; done)) (Nat.le_of_ble_eq_true rfl)) (by (simp [AV.cells, AV.one, *]; done)) (by (unfold maxLen; simp only [List.length_take, List.length_drop, List.length_append, List.length_cons, List.length_nil, List.length_set, Nat.zero_add]; omega)) (by (simp only [List.length_take, List.length_drop, List.length_append, List.length_cons, List.length_nil, List.length_set, Nat.zero_add]; omega)) (by (dsimp only [List.set, List.cons_append, List.nil_append, List.take, List.drop]; done)) (fun _ => by (dsimp only [List.set]; done)) ?_)
 intro V3 hV3
 refine AO.op (O.assign rfl rfl) rfl rfl rfl ?_
 refine AO.nil ?_
 refine AQ.thenN ?_
 refine AW.seq ?_
 refine AW.seq ?_
 refine AW.region ?_
 refine AO.op (O.fieldAddr rfl rfl) rfl rfl rfl ?_
 refine AO.op (O.load rfl rfl (by repeat (exact List.Mem.head _)) (by rfl)) rfl rfl rfl ?_
 refine AO.op (O.lenR rfl rfl) rfl rfl rfl ?_
 refine AO.op (O.move rfl rfl) rfl rfl rfl ?_
 refine AO.nil ?_
 refine AQ.thenN ?_
 refine AW.block ?_
 have hnl : ∀ q, q ≤ l.length → (encIs (l.take q)).length ≤ (encIs l).length := fun q hq => by
  have h6 := congrArg List.length (encIs_app (l.take q) (l.drop q))
  rw [List.take_append_drop, List.length_append] at h6
  omega
 obtain ⟨o0, ho0⟩ : ∃ o0, o0 = o ++ (u8 (32 * k + hnI k n b l.length) :: b) := ⟨_, rfl⟩
 have hol0 : o0.length = o.length + b.length + 1 := by rw [ho0]; simp; omega
 have e0 : bytesA o ++ bytesA [u8 (32 * k + hnI k n b l.length)] ++ bytesA b = bytesA o0 := by rw [ho0, bytesA_app, List.append_assoc]; rfl
 have e1 : o.length + [u8 (32 * k + hnI k n b l.length)].length + b.length = o0.length := by rw [hol0]; simp; omega
 rw [e0, e1]
 refine AW.loopK [(43, _), (44, _)] (fun nn E H => ∃ (q : Nat) (V' : Value) (o' : List UInt8), (q ≤ l.length) ∧ (V'.oneCell' = true) ∧ (o' = o0 ++ encIs (l.take q)) ∧ nn = l.length - q ∧ E = [(0, .val V'), (45, .val (.int .i64 (q : Int)))] ∧ H = [.row V' 5 1 o'.length (bytesA o'), .blk B1 100 4 [.val (.int .i64 k), .val (.int .u64 n), roB b, .ro false l.length (itsA l)]]) _ (⟨0, _, o0, by omega, ‹_›, by simp [encIs], rfl, rfl, rfl⟩) (by repeat (first | exact envNil | refine envCons rfl ?_)) (by repeat (first | exact envNil | refine envCons rfl ?_)) (by repeat (first | exact subPnil | refine subPcons 0 rfl ?_ | refine subPcons 1 rfl ?_)) ?_
 rintro nn E H ⟨q, V', o', hq, hV', ho', rfl, rfl, rfl⟩
 dsimp only [List.cons_append, List.nil_append]
 have hol : o'.length = o0.length + (encIs (l.take q)).length := by rw [ho', List.length_append]
 have hkl := hnl q hq
 refine AW.seq ?_
 refine AW.region ?_
 refine AO.op (O.lss rfl rfl rfl (by rfl)) rfl rfl rfl ?_
 refine AO.nil ?_
 refine AQ.thenN ?_
 refine AW.seq ?_
 refine AW.split rfl (fun hlt => ?_) (fun hlt => ?_) <;> (try simp only [decide_eq_true_eq, decide_eq_false_iff_not, beq_iff_eq, beq_eq_false_iff_ne, bne_iff_ne, bne_eq_false_iff_eq, Bool.not_eq_true', Bool.not_eq_false', Bool.not_eq_true, Bool.not_eq_false, ne_eq, Int.not_lt, Int.not_le, Bool.and_eq_true, Bool.or_eq_true, Bool.or_eq_false_iff, Bool.and_eq_false_imp, strOf_toList, Decidable.not_not] at hlt)
 ·skip
  have hql : q < l.length := by omega
  obtain ⟨kk, nn', bb, ll, hx⟩ : ∃ kk nn' bb ll, itat l q = .mk kk nn' bb ll := by cases h : itat l q; exact ⟨_, _, _, _, rfl⟩
  have hg : ((itsA l).drop (Int.toNat (q : Int) * 4)).take 4 = [.val (.int .i64 kk), .val (.int .u64 nn'), roB bb, .ro false ll.length (itsA ll)] := by
   rw [getIt hql (by omega), hx, It.cells]
  have hSk := hS q hql
  rw [hx] at hSk
  unfold AddSp at hSk
  rw [It.cells] at hSk
  have hsn := take_snoc itN hql
  have e2 := encIs_snoc (l.take q) (itat l q)
  rw [← hsn, hx] at e2
  have h5 := hnl (q + 1) (by omega)
  have e3 := congrArg List.length e2
  rw [List.length_append] at e3
  generalize (It.mk kk nn' bb ll).enc = en at *
  refine AW.skip ?_
  refine AQ.thenN ?_
  refine AW.seq ?_
  refine AW.block ?_
  refine AW.seq ?_
  refine AW.region ?_
  refine AO.op (O.idxR rfl rfl rfl ⟨(by omega), (by omega)⟩) rfl rfl rfl ?_
  refine AO.op (O.loadRK rfl rfl (by exact hg) (by rfl)) rfl rfl rfl ?_
  refine AO.opB (O.alloc rfl (by (dsimp only [zerosA, List.replicate, List.append, List.flatten, AV.cells, Value.cells, List.toList_toArray, List.map]; done)) (by rfl)) rfl rfl rfl ?_
  intro B4
  (refine AO.store (i := 0) rfl rfl rfl rfl rfl rfl (by rfl) (by rfl) (by rfl) (by (dsimp only [List.set, List.cons_append, List.nil_append, List.take, List.drop]; done)) (by (dsimp only [List.set, List.cons_append, List.nil_append, List.take, List.drop]; done)) ?_)
  refine AO.nil ?_
  refine AQ.thenN ?_
  refine AW.region ?_
  refine AO.op (O.move rfl rfl) rfl rfl rfl ?_
  refine AO.op (O.loadK rfl rfl (by repeat (exact List.Mem.head _)) (by rfl) (by rfl)) rfl rfl rfl ?_
  refine AO.callMG 1 rfl rfl Tryz.func91 rfl rfl rfl rfl rfl rfl (hSk _ _ ‹_› (by omega)) ?_
  rintro _ _ ⟨V5, hV5, rfl, rfl⟩
  dsimp only [List.cons_append, List.nil_append, List.eraseIdx]
  refine AO.op (O.assign rfl rfl) rfl rfl rfl ?_
  refine AO.nil ?_
  refine AQ.blockN ?_
  refine AQ.thenN ?_
  refine AW.region ?_
  refine AO.op (O.add rfl rfl rfl (by exact wI64 (by omega))) rfl rfl rfl ?_
  refine AO.op (O.move rfl rfl) rfl rfl rfl ?_
  refine AO.nil ?_
  refine AQ.loopKN _ _ _ (by omega) (⟨q + 1, _, o' ++ en, by omega, ‹_›, by rw [ho', e2, List.append_assoc], rfl, rfl, rfl⟩) (by repeat (first | exact envNil | refine envCons rfl ?_)) (by repeat (first | exact envNil | refine envCons rfl ?_)) (by repeat (first | exact subPnil | refine subPcons 0 rfl ?_ | refine subPcons 1 rfl ?_))
 ·skip
  obtain rfl : q = l.length := by omega
  rw [List.take_length] at ho'
  have hf : o' = o ++ (u8 (32 * k + hnI k n b l.length) :: (b ++ encIs l)) := by rw [ho', ho0]; simp
  subst hf
  refine AW.exit ?_
  refine AQ.thenX ?_
  refine AQ.loopX ?_
  refine AQ.blockX rfl ?_
  refine AQ.thenN ?_
  refine AW.seq ?_
  refine AW.region ?_
  refine AO.op (O.move rfl rfl) rfl rfl rfl ?_
  refine AO.op (O.assign rfl rfl) rfl rfl rfl ?_
  refine AO.nil ?_
  refine AQ.thenN ?_
  refine AW.ret ?_
  refine AQ.ret1 rfl rfl ⟨_, by repeat (first | exact List.Sublist.slnil | refine List.Sublist.cons_cons _ ?_ | refine List.Sublist.cons _ ?_), List.Perm.refl _⟩ (⟨V', hV', rfl, rfl⟩)
theorem add_leaf {x : It} (h : leafI x) : AddSp x := by
 obtain ⟨k, n, b, l⟩ := x
 obtain ⟨rfl, ⟨hk, hn, hn2, rfl⟩ | ⟨rfl, rfl, hb⟩⟩ := h
 ·have e : hnI k n [] ([] : List It).length = n := by rcases hk with rfl | rfl <;> rfl
  refine add_node (by omega) (by omega) (by rw [e]; exact ⟨hn, hn2⟩) ?_ (by simp) (fun q hq => absurd hq (by simp))
  rw [e, itsA]
  exact majorL_fn hk ⟨hn, hn2⟩
 ·have e : hnI 2 0 b ([] : List It).length = (b.length : Int) := rfl
  refine add_node (by omega) (by omega) (by rw [e]; omega) ?_ (by simp) (fun q hq => absurd hq (by simp))
  rw [e, itsA]
  exact majorB_fn hb
theorem cadd_fn : ∀ (d : Nat) (x : It), x.ok d → AddSp x
 | 0, x, h => add_leaf h
 | d + 1, .mk k n b l, h => by
  rcases h with h | ⟨rfl, rfl, rfl, h4, h5⟩
  ·exact add_leaf h
  ·have e : hnI 4 0 [] l.length = (l.length : Int) := rfl
   refine add_node (by omega) (by omega) (by rw [e]; omega) ?_ h4 (fun q hq => cadd_fn d _ (h5 _ (getD_mem itN hq)))
   rw [e]
   exact majorA_fn h4
/-! ### Encode, Array, Bytes -/
theorem cencode_fn (d : Nat) (x : It) (hx : x.ok d) (hd : d ≤ 8) (h1 : x.nodes < 200) (h2 : x.enc.length < 4000) : Sp Tryz.prog 69 [.agg x.cells] [] (Is (.tup [roB x.enc, .val (.int .i64 0)])) := by
 have hS := cadd_fn d x hx
 have hle : x.enc.length ≤ 100000 := by omega
 obtain ⟨k, n, b, l⟩ := x
 unfold AddSp at hS
 have hval := cvalid_fn d (.mk k n b l) hx hd h1 h2
 rw [It.cells] at hS hval ⊢
 refine Sp.enter Tryz.func69 rfl _ Tryz.ntmps69 rfl (fun w0 R0 => ?_)
 refine AW.seq ?_
 refine AW.region ?_
 refine AO.opB (O.box rfl rfl rfl rfl rfl) rfl rfl rfl ?_
 intro B1
 refine AO.op (O.assign rfl rfl) rfl rfl rfl ?_
 refine AO.op (O.assign rfl rfl) rfl rfl rfl ?_
 refine AO.nil ?_
 refine AQ.thenN ?_
 refine AW.seq ?_
 refine AW.seq ?_
 refine AW.region ?_
 (refine AO.op (O.loadK rfl rfl (by repeat (exact List.Mem.head _)) (by (dsimp only [List.set, List.cons_append, List.nil_append, List.take, List.drop]; done)) (by rfl)) rfl rfl rfl ?_)
 refine AO.op (O.call rfl Tryz.func77 rfl rfl rfl (hval)) rfl rfl rfl ?_
 refine AO.op (O.not rfl rfl (by rfl)) rfl rfl rfl ?_
 refine AO.nil ?_
 refine AQ.thenN ?_
 refine AW.condF rfl ?_
 refine AW.g ?_
 refine G.nilRow 5 1 ?_
 refine AW.u ?_
 refine AW.skip ?_
 refine AQ.thenN ?_
 refine AW.seq ?_
 refine AW.region ?_
 (refine AO.op (O.loadK rfl rfl (by repeat (first | exact List.Mem.head _ | refine List.Mem.tail _ ?_)) (by (dsimp only [List.set, List.cons_append, List.nil_append, List.take, List.drop]; done)) (by rfl)) rfl rfl rfl ?_)
 refine AO.callMG 0 rfl rfl Tryz.func91 rfl rfl rfl rfl rfl rfl (hS _ [] rfl (by simpa using hle)) ?_
 rintro _ _ ⟨V2, hV2, rfl, rfl⟩
 dsimp only [List.cons_append, List.nil_append, List.eraseIdx]
 refine AO.op (O.assign rfl rfl) rfl rfl rfl ?_
 refine AO.op (O.assign rfl rfl) rfl rfl rfl ?_
 refine AO.nil ?_
 refine AQ.thenN ?_
 refine AW.ret ?_
 refine AQ.g ?_
 (refine G.freezeRow 0 rfl [2] (by (repeat (first | exact frNil | refine frCons rfl ?_)); done) ?_)
 refine AQ.u ?_
 try dsimp only [List.map, List.eraseIdx, List.cons_append, List.nil_append]
 refine AQ.ret2 rfl rfl rfl ⟨_, List.nil_sublist _, .nil⟩ (⟨rfl, rfl⟩)
set_option maxHeartbeats 4000000 in
theorem carray_fn (d : Nat) (l : List It) (hm : l.length < 24) (hok : ∀ y ∈ l, It.ok d y) : Sp Tryz.prog 67 [.ro false l.length (itsA l)] [] (Is (.agg (It.mk 4 0 [] l).cells)) := by
 rw [It.cells]
 refine Sp.enter Tryz.func67 rfl _ Tryz.ntmps67 rfl (fun w0 R0 => ?_)
 refine AW.seq ?_
 refine AW.region ?_
 refine AO.opB (O.alloc rfl (by (dsimp only [zerosA, List.replicate, List.append, List.flatten, AV.cells, Value.cells, List.toList_toArray, List.map]; done)) (by rfl)) rfl rfl rfl ?_
 intro B1
 refine AO.nil ?_
 refine AQ.thenN ?_
 refine AW.seq ?_
 refine AW.region ?_
 refine AO.op (O.build rfl rfl rfl (by rfl)) rfl rfl rfl ?_
 refine AO.opB (O.alloc rfl (by (dsimp only [zerosA, List.replicate, List.append, List.flatten, AV.cells, Value.cells, List.toList_toArray, List.map]; done)) (by rfl)) rfl rfl rfl ?_
 intro B2
 (refine AO.store (i := 0) rfl rfl rfl rfl rfl rfl (by rfl) (by rfl) (by rfl) (by (dsimp only [List.set, List.cons_append, List.nil_append, List.take, List.drop]; done)) (by (dsimp only [List.set, List.cons_append, List.nil_append, List.take, List.drop]; done)) ?_)
 refine AO.nil ?_
 refine AQ.thenN ?_
 refine AW.seq ?_
 refine AW.seq ?_
 refine AW.region ?_
 refine AO.op (O.move rfl rfl) rfl rfl rfl ?_
 refine AO.op (O.lenR rfl rfl) rfl rfl rfl ?_
 refine AO.op (O.move rfl rfl) rfl rfl rfl ?_
 refine AO.nil ?_
 refine AQ.thenN ?_
 refine AW.block ?_
 refine AW.g ?_
 refine G.nilRow 100 4 ?_
 refine AW.u ?_
 refine AW.loopK [(2, _), (3, _), (7, _), (8, _)] (fun nn E H => ∃ (q : Nat) (V : Value), (q ≤ l.length) ∧ (V.oneCell' = true) ∧ nn = l.length - q ∧ E = [(9, .val (.int .i64 (q : Int)))] ∧ H = [.row V 100 4 q (itsA (l.take q)), .blk B2 100 4 [.val (.int .i64 4), .val (.int .u64 0), .val (.slice none 0 0), .val V], .blk B1 100 4 [.val (.int .i64 0), .val (.int .u64 0), .val (.slice none 0 0), .val (.slice none 0 0)]]) _ (⟨0, _, by omega, rfl, rfl, rfl, rfl⟩) (by repeat (first | exact envNil | refine envCons rfl ?_)) (by repeat (first | exact envNil | refine envCons rfl ?_)) (by repeat (first | exact subPnil | refine subPcons 0 rfl ?_)) ?_
 rintro nn E H ⟨q, V, hq, hV, rfl, rfl, rfl⟩
 dsimp only [List.cons_append, List.nil_append]
 refine AW.seq ?_
 refine AW.region ?_
 refine AO.op (O.lss rfl rfl rfl (by rfl)) rfl rfl rfl ?_
 refine AO.nil ?_
 refine AQ.thenN ?_
 refine AW.seq ?_
 refine AW.split rfl (fun hlt => ?_) (fun hlt => ?_) <;> (try simp only [decide_eq_true_eq, decide_eq_false_iff_not, beq_iff_eq, beq_eq_false_iff_ne, bne_iff_ne, bne_eq_false_iff_eq, Bool.not_eq_true', Bool.not_eq_false', Bool.not_eq_true, Bool.not_eq_false, ne_eq, Int.not_lt, Int.not_le, Bool.and_eq_true, Bool.or_eq_true, Bool.or_eq_false_iff, Bool.and_eq_false_imp, strOf_toList, Decidable.not_not] at hlt)
 ·skip
  have hql : q < l.length := by omega
  obtain ⟨kk, nn', bb, ll, hx⟩ : ∃ kk nn' bb ll, itat l q = .mk kk nn' bb ll := by cases h : itat l q; exact ⟨_, _, _, _, rfl⟩
  have hg : ((itsA l).drop (Int.toNat (q : Int) * 4)).take 4 = [.val (.int .i64 kk), .val (.int .u64 nn'), roB bb, .ro false ll.length (itsA ll)] := by
   rw [getIt hql (by omega), hx, It.cells]
  have hSk := ccopied_fn d _ (hok _ (getD_mem itN hql))
  have hx' : l.getD q itN = .mk kk nn' bb ll := hx
  rw [hx'] at hSk
  unfold CopSp at hSk
  rw [It.cells] at hSk
  have hsn := itsA_snoc (l.take q) (itat l q)
  rw [← take_snoc itN hql, hx, It.cells] at hsn
  refine AW.skip ?_
  refine AQ.thenN ?_
  refine AW.seq ?_
  refine AW.block ?_
  refine AW.seq ?_
  refine AW.region ?_
  refine AO.op (O.idxR rfl rfl rfl ⟨(by omega), (by omega)⟩) rfl rfl rfl ?_
  refine AO.op (O.loadRK rfl rfl (by exact hg) (by rfl)) rfl rfl rfl ?_
  refine AO.opB (O.alloc rfl (by (dsimp only [zerosA, List.replicate, List.append, List.flatten, AV.cells, Value.cells, List.toList_toArray, List.map]; done)) (by rfl)) rfl rfl rfl ?_
  intro B3
  (refine AO.store (i := 0) rfl rfl rfl rfl rfl rfl (by rfl) (by rfl) (by rfl) (by (dsimp only [List.set, List.cons_append, List.nil_append, List.take, List.drop]; done)) (by (dsimp only [List.set, List.cons_append, List.nil_append, List.take, List.drop]; done)) ?_)
  refine AO.nil ?_
  refine AQ.thenN ?_
  refine AW.regionD 5 (by kernel_rfl) (by kernel_rfl) ?_
  simp only [List.take_succ_cons, List.take_zero, List.drop_succ_cons, List.drop_zero]
  refine FA.op (O.fieldAddr rfl rfl) rfl rfl rfl rfl ?_
  refine FA.op (O.load rfl rfl (by repeat (first | exact List.Mem.head _ | refine List.Mem.tail _ ?_)) (by rfl)) rfl rfl rfl rfl ?_
  refine FA.op (O.loadK rfl rfl (by repeat (exact List.Mem.head _)) (by rfl) (by rfl)) rfl rfl rfl rfl ?_
  refine FA.op (O.call rfl Tryz.func89 rfl rfl rfl (hSk)) rfl rfl rfl rfl ?_
  refine FA.op (OpW.frz (O.buildSlice rfl rfl rfl (by rfl) (by rfl) (by rfl) (by rfl)) (by (unfold maxLen; omega))) rfl rfl rfl rfl ?_
  refine FA.nil ?_
  simp only [chosen, List.nil_append, List.cons_append, List.append_nil]
  (refine AO.append' (i := 1) rfl rfl rfl rfl (by rfl) (by rfl) rfl rfl rfl (by exact SrcA.ro TyD.ax (by rfl) (Nat.le_of_ble_eq_true rfl)) (by rfl) (by (unfold maxLen; omega)) (by omega) (by (dsimp only [List.set, List.cons_append, List.nil_append, List.take, List.drop]; done)) (fun _ => by (dsimp only [List.set]; done)) ?_)
  intro V4 hV4
  refine AO.op (O.fieldAddr rfl rfl) rfl rfl rfl ?_
  (refine AO.store (i := 2) rfl rfl rfl rfl rfl rfl (by (simp [AV.cells, AV.one, *]; done)) (by rfl) (by rfl) (by (dsimp only [List.set, List.cons_append, List.nil_append, List.take, List.drop]; done)) (by (dsimp only [List.set, List.cons_append, List.nil_append, List.take, List.drop]; done)) ?_)
  refine AO.nil ?_
  refine AQ.blockN ?_
  refine AQ.thenN ?_
  refine AW.region ?_
  refine AO.op (O.add rfl rfl rfl (by exact wI64 (by omega))) rfl rfl rfl ?_
  refine AO.op (O.move rfl rfl) rfl rfl rfl ?_
  refine AO.nil ?_
  trace_state
  refine AQ.loopKN _ _ _ (by omega) (⟨q + 1, _, by omega, ‹_›, rfl, rfl, by rw [hsn]⟩) (by repeat (first | exact envNil | refine envCons rfl ?_)) (by repeat (first | exact envNil | refine envCons rfl ?_)) (by repeat (first | exact subPnil | refine subPcons 1 rfl ?_))
 ·skip
  obtain rfl : q = l.length := by omega
  rw [List.take_length]
  refine AW.g ?_
  refine G.freezeCell 0 0 3 rfl rfl rfl ?_
  refine AW.u ?_
  refine AW.exit ?_
  refine AQ.thenX ?_
  refine AQ.loopX ?_
  refine AQ.blockX rfl ?_
  refine AQ.thenN ?_
  refine AW.seq ?_
  refine AW.region ?_
  (refine AO.op (O.loadK rfl rfl (by repeat (exact List.Mem.head _)) (by (dsimp only [List.set, List.cons_append, List.nil_append, List.take, List.drop]; done)) (by rfl)) rfl rfl rfl ?_)
  (refine AO.store (i := 1) rfl rfl rfl rfl rfl rfl (by rfl) (by rfl) (by rfl) (by (dsimp only [List.set, List.cons_append, List.nil_append, List.take, List.drop]; done)) (by (dsimp only [List.set, List.cons_append, List.nil_append, List.take, List.drop]; done)) ?_)
  refine AO.nil ?_
  refine AQ.thenN ?_
  refine AW.ret ?_
  refine FnQ.coe (AQ.retCell rfl rfl (by repeat (first | exact List.Mem.head _ | refine List.Mem.tail _ ?_)) (by (dsimp only [List.set, List.cons_append, List.nil_append, List.take, List.drop]; done)) (by rfl) ⟨_, List.nil_sublist _, .nil⟩ ⟨rfl, rfl⟩) (Coe.agg (by (repeat (first | exact CoeL.nil | refine CoeL.cons Coe.rfl ?_ | refine CoeL.cons Coe.nil ?_)); done)) (⟨rfl, rfl⟩)
end Go.Proofs.YtoonnnifelnaiaaGreatDoor.By

namespace Go.Proofs.YtoonnnifelnaiaaGreatDoor.A
open Go.RowKit L
set_option linter.unusedVariables false
set_option maxRecDepth 20000
set_option linter.unusedSimpArgs false
section
variable {P : Program}

def pval : AV → Option Value
 | .val v => some v
 | .agg xs => (valsOf xs).map fun vs => .agg vs.toArray
 | _ => none
def pvals : List AV → Option (List Value)
 | [] => some []
 | x :: r => match pval x, pvals r with | some v, some vs => some (v :: vs) | _, _ => none
theorem pval_rel {R : Nat → Prop} {W : World} {x : AV} {v u : Value} (h : pval x = some v) (hr : RelV R W x u) : u = v := by
 cases x with
 | val w => cases h; exact hr.val_inv
 | agg xs =>
  simp only [pval] at h
  cases hq : valsOf xs with
  | none => rw [hq] at h; cases h
  | some vs =>
   rw [hq] at h
   cases h
   obtain ⟨us, rfl, h1⟩ := hr.agg_inv
   rw [valsOf_rel hq h1]
 | _ => cases h
theorem pvals_rel {R : Nat → Prop} {W : World} : ∀ {xs : List AV} {vs us : List Value}, pvals xs = some vs → RelL R W xs us → us = vs
 | [], vs, us, h, hr => by cases h; exact List.eq_nil_of_length_eq_zero (by simpa using hr.1)
 | x :: xs, vs, us, h, hr => by
  obtain ⟨u, r, rfl, h1, h2⟩ := hr.uncons
  simp only [pvals] at h
  split at h
  ·rename_i v vs' e1 e2
   cases h
   rw [pval_rel e1 h1, pvals_rel e2 h2]
  ·cases h
/-- A new row that the caller only reads. -/
theorem Sp.frozen {f : FuncId} {args : List AV} {T : TypeId} {sz n : Nat} {ys : List AV} (h : Sp P f args [] (NewRow T sz n ys)) : Sp P f args [] (Is (.ro false n ys)) := fun W R us h1 h2 h3 h4 => by
 refine (h W R us h1 h2 h3 h4).mono ?_
 rintro e W' ⟨u, r, H', R', rfl, ⟨v, rfl, hv1, rfl⟩, hs, hv⟩
 have hok := hs.ok _ (List.mem_cons_self ..)
 have hown := hs.own _ (List.mem_cons_self ..)
 have hu := hv.val_inv
 subst hu
 refine ⟨u, .ro false n ys, [], fun b => R' b ∨ (HE.row u T sz n ys).foot b, rfl, ⟨rfl, rfl⟩, ⟨hs.mods, ?_, fun b hb => .inl (hs.rsub b hb), ?_, fun _ h => (by cases h), fun _ h => (by cases h), .nil⟩, row_ro hok⟩
 ·rintro b (hb | hb)
  ·exact hs.rlt b hb
  ·exact HE.ok_lt hok hb
 ·rintro b (hb | hb)
  ·exact hs.rnew b hb
  ·exact .inr (hown b hb).1
end
end Go.Proofs.YtoonnnifelnaiaaGreatDoor.A

namespace Go.Proofs.YtoonnnifelnaiaaGreatDoor.A
open Go.RowKit L
set_option linter.unusedVariables false
set_option maxRecDepth 20000
set_option linter.unusedSimpArgs false
section
variable {P : Program} {E : Env} {H : List HE} {N : Nat} {o : Oper}
theorem O.ext {f : FuncId} {xs : List Operand} {ats : Array TypeId} {args : List AV} {us : List Value} {v : Value} {e : Array Value → Sem Value} {fn : Func} (ho : o.op = .call { callee := .value (.func f), args := xs.toArray, argTypes := ats }) (hfn : P.funcs[f]? = some fn) (hn : (fn.name == "runtime.NumGoroutine") = false) (hb : fn.body.isNone = true) (hnx : Extern.findNext fn = none) (he : Extern.find fn = some e)
  (hx : evs E xs = some args) (ha : pvals args = some us) (h : ∀ W, (e us.toArray).run P W = .ok v W) : OpW P N o E H (Is (.val v)) := .of_run fun R a W h1 h2 hra => by
 have h3 := pvals_rel ha (hra.evs hx)
 refine ⟨v, ?_, .val _⟩
 obtain ⟨dst, op, ty, pos, after, guard⟩ := o
 simp only at ho
 subst ho
 rw [execOp_call_go]
 show Sem.run P (callFunc f _) W = _
 rw [run_callFunc_extern hfn hn hb hnx he]
 simp only [List.map_toArray, h3, Array.empty_append, Array.append_empty, h W]
 rfl
theorem O.runeS {S T : Nat} {x : Operand} {k : IntKind} {p : Int} {s : ByteArray} [TyD P S (.int k)] [TyD P T .string] (ho : o.op = .convert S T x) (hx : ev E x = some (.val (.int k p))) (hs : Utf8.encode p = s) :
  OpW P N o E H (Is (.val (.string s))) := .of_run fun R a W h1 h2 ha =>
 ⟨.string s, by simp [execOp, ho, (ha.ev hx).val_inv, convert, run_underlying (TyD.ax (P := P) (T := S)), run_underlying (TyD.ax (P := P) (T := T)), Conv.intToString, hs], .val _⟩
end
section
variable {Γ : Cx} {P : Program} {Q : Exit → Act → World → Prop} {E : Env} {H : List HE}
theorem AW.scope {c : Code} (h : AW Γ P (Exit.noGoto Q) c E H) : AW Γ P Q (.scope c) E H := fun R a W hs ha => wp_scope_straight (h R a W hs ha)
theorem AW.label {l : Nat} (h : AQ Γ Q .normal E H) : AW Γ P Q (.label l) E H := fun R a W hs ha => wp_label (h R a W hs ha)
theorem AQ.scopeR (h : AQ Γ Q .ret E H) : AQ Γ (Exit.noGoto Q) .ret E H := h
end
end Go.Proofs.YtoonnnifelnaiaaGreatDoor.A

namespace Go.Proofs.YtoonnnifelnaiaaGreatDoor.By
open Go.RowKit L A
set_option linter.unusedVariables false
set_option maxRecDepth 20000
set_option linter.unusedSimpArgs false

open Classical in
/-- What is read: a message whose encoding the bytes are. -/
noncomputable def decS (b : List UInt8) : Msg × Int :=
 if 4096 < b.length then (Msg.none, 8) else if b.length < 4 then (Msg.none, 2) else if h : ∃ m, OkM m ∧ raw m = b then (Classical.choose h, 0) else (Msg.none, 4)
/-! ### The parser -/
def takeP (r : List UInt8) (bad : Bool) (n : Int) : List UInt8 × List UInt8 × Bool := if (r.length : Int) < n then (List.replicate (min n 4).toNat 0, r, true) else (r.take n.toNat, r.drop n.toNat, bad)
def numP (r : List UInt8) (bad : Bool) (n : Int) : Int × List UInt8 × Bool :=
 if n = 13 then (((bt (takeP r bad 1).1 0).toNat : Int) + 13, (takeP r bad 1).2)
 else if n = 14 then (((bt (takeP r bad 2).1 0).toNat : Int) * 256 + ((bt (takeP r bad 2).1 1).toNat : Int) + 269, (takeP r bad 2).2)
 else (n, r, if n = 15 then true else bad)
theorem takeP_app (v t : List UInt8) (bad : Bool) {n : Int} (h : n = v.length) : takeP (v ++ t) bad n = (v, t, bad) := by
 subst h
 unfold takeP
 rw [if_neg (by simp; omega)]
 simp
theorem numP_ext {x : Int} (h : 0 ≤ x ∧ x ≤ 65804) (t : List UInt8) (bad : Bool) : numP ((ext x).2 ++ t) bad (ext x).1 = (x, t, bad) := by
 unfold ext
 split
 ·unfold numP; rw [if_neg (by simp; omega), if_neg (by simp; omega), if_neg (by simp; omega)]; rfl
 ·split
  ·unfold numP
   rw [if_pos rfl, takeP_app [u8 (x - 13)] t bad (n := 1) rfl]
   have := u8_small (x := x - 13) (by omega)
   simp [bt] at this ⊢
   omega
  ·unfold numP
   rw [if_neg (by simp), if_pos rfl, takeP_app [u8 ((x - 269) / 256), u8 (x - 269)] t bad (n := 2) rfl]
   have h1 := u8_small (x := (x - 269) / 256) (by omega)
   have h2 := u8_toNat (x - 269)
   simp [bt] at h1 h2 ⊢
   omega
/-! ### The rest of an encoding -/
def tailM (m : Msg) : List UInt8 := if m.pay = [] then [] else 255 :: m.pay
def restM (m : Msg) (k : Nat) : List UInt8 := rawO (lastO 0 (m.opts.take k)) (m.opts.drop k) ++ tailM m
theorem rest_zero (m : Msg) : raw m = headM m ++ (m.tok ++ restM m 0) := by simp [raw, restM, tailM, lastO]
theorem rest_end {m : Msg} {k : Nat} (h : m.opts.length ≤ k) : restM m k = tailM m := by simp [restM, List.drop_eq_nil_of_le h, rawO]
theorem rest_step {m : Msg} {k : Nat} (h : k < m.opts.length) : restM m k = u8 (16 * (ext ((oat m.opts k).num - lastO 0 (m.opts.take k))).1 + (ext ((oat m.opts k).val.length : Int)).1) :: ((ext ((oat m.opts k).num - lastO 0 (m.opts.take k))).2 ++ ((ext ((oat m.opts k).val.length : Int)).2 ++ ((oat m.opts k).val ++ restM m (k + 1)))) := by
 rw [restM, drop_cons Opt.none h, rawO, hdr, restM, take_snoc Opt.none h, lastO_snoc]
 simp

/-- How far bytes are read, whatever valid message they encode. -/
def Fits (b : List UInt8) (opts : List Opt) (last : Int) (r : List UInt8) (bad : Bool) : Prop :=
 ∀ m, OkM m → raw m = b → bad = false ∧ opts.length ≤ m.opts.length ∧ r = restM m opts.length ∧ last = lastO 0 opts ∧ opts = m.opts.take opts.length
theorem Fits.more {b : List UInt8} {opts : List Opt} {last : Int} {r : List UInt8} {bad : Bool} (h : Fits b opts last r bad) {m : Msg} (hm : OkM m) (hr : raw m = b) (h1 : r ≠ []) (h2 : bt r 0 ≠ 255) : opts.length < m.opts.length := by
 obtain ⟨-, h3, h4, -, -⟩ := h m hm hr
 rcases Nat.lt_or_ge opts.length m.opts.length with h5 | h5
 ·exact h5
 ·rw [rest_end h5, tailM] at h4
  split at h4
  ·exact absurd h4 h1
  ·subst h4; exact absurd rfl h2
theorem Fits.ends {b : List UInt8} {opts : List Opt} {last : Int} {r : List UInt8} {bad : Bool} (h : Fits b opts last r bad) {m : Msg} (hm : OkM m) (hr : raw m = b) (h1 : bad = true ∨ r = [] ∨ bt r 0 = 255) : bad = false ∧ opts = m.opts ∧ r = tailM m := by
 obtain ⟨h0, h3, h4, h6, h7⟩ := h m hm hr
 rcases Nat.lt_or_ge opts.length m.opts.length with h5 | h5
 ·rw [rest_step h5] at h4
  have h8 := AscO_at hm.2.2.1 h5
  have h9 := lastO_le (AscO_take hm.2.2.1 opts.length) (by omega)
  have e1 := ext_le ((oat m.opts opts.length).num - lastO 0 (m.opts.take opts.length)) (by omega)
  have e2 := ext_le ((oat m.opts opts.length).val.length : Int) (by omega)
  rcases h1 with h1 | h1 | h1
  ·rw [h0] at h1; cases h1
  ·rw [h1] at h4; cases h4
  ·have e3 := u8_small (x := 16 * (ext ((oat m.opts opts.length).num - lastO 0 (m.opts.take opts.length))).1 + (ext ((oat m.opts opts.length).val.length : Int)).1) (by omega)
   rw [h4] at h1
   have h1' : u8 (16 * (ext ((oat m.opts opts.length).num - lastO 0 (m.opts.take opts.length))).1 + (ext ((oat m.opts opts.length).val.length : Int)).1) = 255 := h1
   rw [h1'] at e3
   have : ((255 : UInt8).toNat : Int) = 255 := rfl
   omega
 ·refine ⟨h0, ?_, ?_⟩
  ·rw [List.take_of_length_le h5] at h7; exact h7
  ·rw [rest_end h5] at h4; exact h4
/-- A further option of a valid message. -/
theorem Fits.parts {b : List UInt8} {opts : List Opt} {last : Int} {r : List UInt8} {bad : Bool} (h : Fits b opts last r bad) {m : Msg} (hm : OkM m) (hr : raw m = b) (h1 : r ≠ []) (h2 : bt r 0 ≠ 255) :
  ∃ o d n, opts.length < m.opts.length ∧ o = oat m.opts opts.length ∧ d = o.num - last ∧ n = (o.val.length : Int) ∧ 0 ≤ d ∧ d ≤ 65535 ∧ n ≤ 1034 ∧ ((bt r 0).toNat : Int) = 16 * (ext d).1 + (ext n).1 ∧ r.drop 1 = (ext d).2 ++ ((ext n).2 ++ (o.val ++ restM m (opts.length + 1))) := by
 have h5 := h.more hm hr h1 h2
 obtain ⟨h0, h3, h4, h6, h7⟩ := h m hm hr
 rw [rest_step h5, ← h7, ← h6] at h4
 have h8 := AscO_at hm.2.2.1 h5
 have h9 := lastO_le (AscO_take hm.2.2.1 opts.length) (by omega)
 rw [← h7, ← h6] at h8 h9
 have e1 := ext_le ((oat m.opts opts.length).num - last) (by omega)
 have e2 := ext_le ((oat m.opts opts.length).val.length : Int) (by omega)
 refine ⟨_, _, _, h5, rfl, rfl, rfl, by omega, by omega, by omega, ?_, by rw [h4]; rfl⟩
 rw [h4]
 exact u8_small (by omega)
theorem Fits.step {b : List UInt8} {opts : List Opt} {last : Int} {r r1 r2 r3 : List UInt8} {b1 b2 b3 : Bool} {v1 v2 : Int} {x : List UInt8} (h : Fits b opts last r false) (h1 : r ≠ []) (h2 : bt r 0 ≠ 255)
  (e1 : numP (r.drop 1) false (((bt r 0).toNat : Int) / 16) = (v1, r1, b1)) (e2 : numP r1 b1 (((bt r 0).toNat : Int) % 16) = (v2, r2, b2)) (e3 : takeP r2 b2 v2 = (x, r3, b3)) : Fits b (opts ++ [⟨last + v1, x⟩]) (last + v1) r3 b3 := fun m hm hr => by
 obtain ⟨o, d, n, h5, h6, h7, h8, h9, h10, h11, h12, h13⟩ := h.parts hm hr h1 h2
 obtain ⟨-, -, -, h16, h17⟩ := h m hm hr
 have q1 := ext_le d h9
 have q2 := ext_le n (by omega)
 rw [h12, show (16 * (ext d).1 + (ext n).1) / 16 = (ext d).1 by omega, h13, numP_ext (by omega)] at e1
 simp only [Prod.mk.injEq] at e1
 obtain ⟨e11, e12, e13⟩ := e1
 subst e12; subst e13
 rw [h12, show (16 * (ext d).1 + (ext n).1) % 16 = (ext n).1 by omega, numP_ext (by omega)] at e2
 simp only [Prod.mk.injEq] at e2
 obtain ⟨e21, e22, e23⟩ := e2
 subst e22; subst e23
 rw [takeP_app _ _ _ (e21.symm.trans h8)] at e3
 simp only [Prod.mk.injEq] at e3
 obtain ⟨e31, e32, e33⟩ := e3
 subst e31; subst e32; subst e33
 have hl : last + v1 = o.num := by omega
 refine ⟨rfl, by simp; omega, by simp, by rw [lastO_snoc], ?_⟩
 rw [List.length_append, List.length_singleton, take_snoc Opt.none h5, ← h17, hl, h6]
/-- The start. -/
theorem Fits.start {b : List UInt8} : (∀ m, OkM m → raw m = b → ((bt b 0).toNat : Int) = 64 + 16 * m.ty + m.tok.length ∧ ((bt b 1).toNat : Int) = m.code ∧ ((bt b 2).toNat : Int) = m.id / 256 ∧ ((bt b 3).toNat : Int) = m.id % 256 ∧ b.drop 4 = m.tok ++ restM m 0) := fun m hm hr => by
 have h1 := hm.1
 have h2 := hm.2.1
 subst hr
 rw [rest_zero]
 refine ⟨u8_small (by omega), u8_small (by omega), u8_small (by omega), u8_toNat _, rfl⟩
theorem Fits.first {b x r : List UInt8} {bad : Bool} (e : takeP (b.drop 4) false (((bt b 0).toNat : Int) % 16) = (x, r, bad)) : Fits b [] 0 r bad ∧ ∀ m, OkM m → raw m = b → x = m.tok := by
 have key : ∀ m, OkM m → raw m = b → x = m.tok ∧ r = restM m 0 ∧ bad = false := fun m hm hr => by
  obtain ⟨h1, -, -, -, h5⟩ := Fits.start m hm hr
  have h2 := hm.2.1
  rw [h1, h5, takeP_app _ _ _ (by omega)] at e
  cases e
  exact ⟨rfl, rfl, rfl⟩
 exact ⟨fun m hm hr => ⟨(key m hm hr).2.2, Nat.zero_le _, (key m hm hr).2.1, rfl, rfl⟩, fun m hm hr => (key m hm hr).1⟩
/-- The end: every valid message with this encoding is the one that is read. -/
theorem Fits.all {b x r : List UInt8} {opts : List Opt} {last : Int} {bad : Bool} (h : Fits b opts last r bad) (hx : ∀ m, OkM m → raw m = b → x = m.tok) (h1 : bad = true ∨ r = [] ∨ bt r 0 = 255) {pay : List UInt8} (hp : pay = r.drop 1) {ty code id : Int}
  (hty : ty = ((bt b 0).toNat : Int) / 16 % 4) (hcode : code = ((bt b 1).toNat : Int)) (hid : id = ((bt b 2).toNat : Int) * 256 + ((bt b 3).toNat : Int)) : ∀ m, OkM m → raw m = b → bad = false ∧ m = ⟨ty, code, id, x, opts, pay⟩ := fun m hm hr => by
 obtain ⟨g1, g2, g3, g4, -⟩ := Fits.start m hm hr
 obtain ⟨h3, h4, h5⟩ := h.ends hm hr h1
 have q1 := hm.1
 have q2 := hm.2.1
 have hpay : pay = m.pay := by
  rw [hp, h5, tailM]
  split
  ·rename_i e; rw [e]; rfl
  ·rfl
 refine ⟨h3, ?_⟩
 obtain ⟨ty', code', id', tok', opts', pay'⟩ := m
 simp only at g1 g2 g3 g4 q1 q2 h4 hpay
 have := hx _ hm hr
 simp only at this
 subst this; subst h4; subst hpay
 rw [Msg.mk.injEq]
 refine ⟨by omega, by omega, by omega, rfl, rfl, rfl⟩
end Go.Proofs.YtoonnnifelnaiaaGreatDoor.By

namespace Go.Proofs.YtoonnnifelnaiaaGreatDoor.By
open Go.RowKit L A
set_option linter.unusedVariables false
set_option maxRecDepth 20000
set_option linter.unusedSimpArgs false

theorem Fits.own {m : Msg} (hm : OkM m) : ∀ k, k ≤ m.opts.length → Fits (raw m) (m.opts.take k) (lastO 0 (m.opts.take k)) (restM m k) false
 | 0, _ => by
  have h1 := hm.1
  have h2 := hm.2.1
  have e0 : ((bt (raw m) 0).toNat : Int) = 64 + 16 * m.ty + m.tok.length := (Fits.start m hm rfl).1
  have e : takeP ((raw m).drop 4) false (((bt (raw m) 0).toNat : Int) % 16) = (m.tok, restM m 0, false) := by
   rw [(Fits.start m hm rfl).2.2.2.2, takeP_app _ _ _ (by omega)]
  exact (Fits.first e).1
 | k + 1, h => by
  have ih := Fits.own hm k (by omega)
  have h5 : k < m.opts.length := by omega
  have h8 := AscO_at hm.2.2.1 h5
  have h9 := lastO_le (AscO_take hm.2.2.1 k) (by omega)
  have hr := rest_step (m := m) h5
  generalize hd : (oat m.opts k).num - lastO 0 (m.opts.take k) = d at hr
  generalize hn : ((oat m.opts k).val.length : Int) = n at hr
  have e1 := ext_le d (by omega)
  have e2 := ext_le n (by omega)
  have hb : bt (restM m k) 0 = u8 (16 * (ext d).1 + (ext n).1) := by rw [hr]; rfl
  have hu := u8_small (x := 16 * (ext d).1 + (ext n).1) (by omega)
  have s := ih.step (v1 := d) (r1 := (ext n).2 ++ ((oat m.opts k).val ++ restM m (k + 1))) (b1 := false) (v2 := n) (r2 := (oat m.opts k).val ++ restM m (k + 1)) (b2 := false) (x := (oat m.opts k).val) (r3 := restM m (k + 1)) (b3 := false)
   (by rw [hr]; simp) (fun e => by
    rw [hb] at e
    rw [e] at hu
    have : ((255 : UInt8).toNat : Int) = 255 := rfl
    omega)
   (by rw [hb, hu, show (16 * (ext d).1 + (ext n).1) / 16 = (ext d).1 by omega, hr]; exact numP_ext (by omega) _ _)
   (by rw [hb, hu, show (16 * (ext d).1 + (ext n).1) % 16 = (ext n).1 by omega]; exact numP_ext (by omega) _ _)
   (takeP_app _ _ _ hn.symm)
  rw [show lastO 0 (m.opts.take k) + d = (oat m.opts k).num by omega] at s
  rw [take_snoc Opt.none h5, lastO_snoc]
  exact s
end Go.Proofs.YtoonnnifelnaiaaGreatDoor.By

namespace Go.Proofs.YtoonnnifelnaiaaGreatDoor.By
open Go.RowKit L A
set_option linter.unusedVariables false
set_option maxRecDepth 20000
set_option linter.unusedSimpArgs false
attribute [local irreducible] AW AQ AO
def cls (n : Int) : Int :=
 if n = 3 ∨ n = 7 ∨ n = 9 ∨ n = 16 ∨ n = 35 ∨ n = 39 then 2
 else if n = 6 ∨ n = 14 ∨ n = 23 ∨ n = 27 ∨ n = 28 ∨ n = 60 ∨ n = 252 ∨ n = 258 ∨ n = 292 then 3 else 1
def rq (c : Int) : Bool := decide (1 ≤ c) && decide (c ≤ 31)
def rs (c : Int) : Bool := decide (64 ≤ c)
end Go.Proofs.YtoonnnifelnaiaaGreatDoor.By

namespace Go.Proofs.YtoonnnifelnaiaaGreatDoor.By
open Go.RowKit L A
set_option linter.unusedVariables false
set_option maxRecDepth 20000
set_option linter.unusedSimpArgs false
attribute [local irreducible] AW AQ AO
def inO (c : Int) (o : Opt) : Opt := if o.num = 6 ∧ rs c = true then ⟨o.num, []⟩ else o
def inL (c : Int) (os : List Opt) : List Opt := (os.filter fun o => decide (cls o.num ≠ 2)).map (inO c)
def outL (os : List Opt) : List Opt := os.filter fun o => decide (cls o.num = 2 ∨ o.num = 6)
def watchB (os : List Opt) : Bool := os.any fun o => decide (o.num = 6)
def badB (os : List Opt) : Bool := os.any fun o => decide (o.num = 9 ∨ o.num = 35)
def outC (m : Msg) : Int := if rq m.code = true then (if watchB m.opts = true then 5 else 2) else (if watchB m.opts = true then 69 else 68)
def inM (m : Msg) : Msg := ⟨0, m.code, 0, [], inL m.code m.opts, m.pay⟩
def outM (m : Msg) : Msg := ⟨m.ty, outC m, m.id, m.tok, outL m.opts, []⟩
def splitR (m : Msg) : Msg × Msg × Int :=
 if ValM m ∧ (rq m.code = true ∨ rs m.code = true) then (if badB m.opts = true then (Msg.none, Msg.none, 15) else (inM m, outM m, 0)) else (Msg.none, Msg.none, 1)
abbrev res3 (r : Msg × Msg × Int) : AV := .tup [aggM r.1, aggM r.2.1, .val (.int .i64 r.2.2)]
end Go.Proofs.YtoonnnifelnaiaaGreatDoor.By

namespace Go.Proofs.YtoonnnifelnaiaaGreatDoor.By
open Go.RowKit L A
set_option linter.unusedVariables false
set_option maxRecDepth 20000
set_option linter.unusedSimpArgs false
attribute [local irreducible] AW AQ AO
def bsA (vs : List (List UInt8)) : List AV := vs.map roB
def roBs (vs : List (List UInt8)) : AV := .ro false vs.length (bsA vs)
def allV (os : List Opt) (n : Int) : List (List UInt8) := (os.filter fun o => o.num == n).map Opt.val
theorem allV_snoc (os : List Opt) (o : Opt) (n : Int) : allV (os ++ [o]) n = if o.num = n then allV os n ++ [o.val] else allV os n := by
 unfold allV
 rw [List.filter_append, List.map_append]
 by_cases h : o.num = n <;> simp [h]
theorem bsA_snoc (vs : List (List UInt8)) (v : List UInt8) : bsA (vs ++ [v]) = bsA vs ++ [roB v] := by simp [bsA]
@[simp] theorem bsA_len (vs : List (List UInt8)) : (bsA vs).length = vs.length := by simp [bsA]
abbrev vat (vs : List (List UInt8)) (k : Nat) : List UInt8 := vs.getD k []
theorem bsA_at {vs : List (List UInt8)} {k : Nat} (h : k < vs.length) {j : Nat} (hj : j = k) : (bsA vs)[j]? = some (roB (vat vs k)) := by
 subst hj; simp [bsA, h, vat]
theorem allV_len (os : List Opt) (n : Int) : (allV os n).length ≤ os.length := by
 unfold allV; rw [List.length_map]; exact List.length_filter_le _ _

end Go.Proofs.YtoonnnifelnaiaaGreatDoor.By

namespace Go.Proofs.YtoonnnifelnaiaaGreatDoor.By
open Go.RowKit L A
set_option linter.unusedVariables false
set_option maxRecDepth 20000
set_option linter.unusedSimpArgs false
attribute [local irreducible] AW AQ AO
def ltO (os : List Opt) (n : Int) : List Opt := os.filter fun o => decide (o.num < n)
def gtO (os : List Opt) (n : Int) : List Opt := os.filter fun o => decide (n < o.num)
def eqO (n : Int) (vs : List (List UInt8)) : List Opt := vs.map fun v => ⟨n, v⟩
def setO (os : List Opt) (n : Int) (vs : List (List UInt8)) : List Opt := ltO os n ++ eqO n vs ++ gtO os n
theorem ltO_snoc (os : List Opt) (o : Opt) (n : Int) : ltO (os ++ [o]) n = if o.num < n then ltO os n ++ [o] else ltO os n := by
 unfold ltO
 rw [List.filter_append]
 by_cases h : o.num < n <;> simp [h]
theorem gtO_snoc (os : List Opt) (o : Opt) (n : Int) : gtO (os ++ [o]) n = if n < o.num then gtO os n ++ [o] else gtO os n := by
 unfold gtO
 rw [List.filter_append]
 by_cases h : n < o.num <;> simp [h]
theorem ltO_len (os : List Opt) (n : Int) : (ltO os n).length ≤ os.length := List.length_filter_le _ _
theorem gtO_len (os : List Opt) (n : Int) : (gtO os n).length ≤ os.length := List.length_filter_le _ _
theorem eqO_len (n : Int) (vs : List (List UInt8)) : (eqO n vs).length = vs.length := by simp [eqO]
theorem setO_mem {os : List Opt} {n : Int} {vs : List (List UInt8)} {o : Opt} (h : o ∈ setO os n vs) : o ∈ os ∨ ∃ v ∈ vs, o = ⟨n, v⟩ := by
 unfold setO ltO gtO eqO at h
 simp only [List.mem_append, List.mem_filter, List.mem_map] at h
 rcases h with (h | ⟨v, h, rfl⟩) | h
 ·exact .inl h.1
 ·exact .inr ⟨v, h, rfl⟩
 ·exact .inl h.1
theorem setO_len (os : List Opt) (n : Int) (vs : List (List UInt8)) : (setO os n vs).length ≤ os.length + os.length + vs.length := by
 have := ltO_len os n
 have := gtO_len os n
 simp only [setO, List.length_append, eqO_len]; omega
end Go.Proofs.YtoonnnifelnaiaaGreatDoor.By

namespace Go.Proofs.YtoonnnifelnaiaaGreatDoor.By
open Go.RowKit L A Dk
set_option linter.unusedVariables false
set_option maxRecDepth 20000
set_option linter.unusedSimpArgs false
attribute [local irreducible] AW AQ AO

/-- Something, and a deck of which more or fewer numbers are taken. -/
def Gen (b : Nat) (l : List Int) (Φ : AV → Prop) : AV → List HE → Prop := fun r H' => Φ r ∧ ∃ k, k ≤ l.length ∧ H' = [deck b l k]
def IsNum (n : Int) (r : AV) : Prop := ∃ z : Int, 0 ≤ z ∧ z < n ∧ r = .val (.int .i64 z)
def IsBytes (n : Nat) (r : AV) : Prop := ∃ x : List UInt8, x.length ≤ n ∧ r = roB x
def Some1 (Φ : AV → Prop) : AV → List HE → Prop := fun r H' => Φ r ∧ H' = []
end Go.Proofs.YtoonnnifelnaiaaGreatDoor.By

namespace Go.Proofs.YtoonnnifelnaiaaGreatDoor.By
open Go.RowKit L A Dk
set_option linter.unusedVariables false
set_option maxRecDepth 20000
set_option linter.unusedSimpArgs false
attribute [local irreducible] AW AQ AO
theorem AscO_iff : ∀ {l : Int} {os : List Opt}, AscO l os ↔ os.Pairwise (fun a b => a.num ≤ b.num) ∧ ∀ o ∈ os, l ≤ o.num ∧ o.num ≤ 65535 ∧ (o.val.length : Int) ≤ 1034
 | l, [] => by simp [AscO]
 | l, o :: os => by
  rw [AscO, AscO_iff, List.pairwise_cons]
  simp only [List.mem_cons, forall_eq_or_imp]
  constructor
  ·rintro ⟨h1, h2, h3, h4, h5⟩
   exact ⟨⟨fun a ha => (h5 a ha).1, h4⟩, ⟨h1, h2, h3⟩, fun a ha => ⟨Int.le_trans h1 (h5 a ha).1, (h5 a ha).2⟩⟩
  ·rintro ⟨⟨h1, h2⟩, ⟨h3, h4, h5⟩, h6⟩
   exact ⟨h3, h4, h5, h2, fun a ha => ⟨h1 a ha, (h6 a ha).2⟩⟩
theorem setO_asc {os : List Opt} {n : Int} {vs : List (List UInt8)} (h : AscO 0 os) (hn : 0 ≤ n ∧ n ≤ 65535) (hv : ∀ v ∈ vs, (v.length : Int) ≤ 1034) : AscO 0 (setO os n vs) := by
 rw [AscO_iff] at h ⊢
 obtain ⟨h1, h2⟩ := h
 refine ⟨?_, fun o ho => ?_⟩
 ·unfold setO ltO gtO eqO
  rw [List.pairwise_append, List.pairwise_append]
  refine ⟨⟨h1.filter _, ?_, ?_⟩, h1.filter _, ?_⟩
  ·rw [List.pairwise_map]
   exact List.Pairwise.imp (R := fun _ _ => True) (fun _ => Int.le_refl _) (List.pairwise_of_forall (fun _ _ => trivial))
  ·intro a ha b hb
   simp only [List.mem_filter, decide_eq_true_eq, List.mem_map] at ha hb
   obtain ⟨v, -, rfl⟩ := hb
   simp only; omega
  ·intro a ha b hb
   simp only [List.mem_append, List.mem_filter, decide_eq_true_eq, List.mem_map] at ha hb
   rcases ha with ha | ⟨v, -, rfl⟩
   ·omega
   ·simp only; omega
 ·rcases setO_mem ho with ho | ⟨v, hv', rfl⟩
  ·exact h2 o ho
  ·exact ⟨hn.1, hn.2, hv v hv'⟩
theorem setO_count (n : Int) : ∀ os : List Opt, (ltO os n).length + (allV os n).length + (gtO os n).length = os.length
 | [] => rfl
 | o :: os => by
  have := setO_count n os
  unfold ltO allV gtO at *
  simp only [List.filter_cons, List.length_map] at *
  rcases Int.lt_trichotomy o.num n with h | h | h
  ·rw [if_pos (by simpa using h), if_neg (by simp; omega), if_neg (by simp; omega)]; simp only [List.length_cons]; omega
  ·rw [if_neg (by simp; omega), if_pos (by simpa using h), if_neg (by simp; omega)]; simp only [List.length_cons]; omega
  ·rw [if_neg (by simp; omega), if_neg (by simp; omega), if_pos (by simpa using h)]; simp only [List.length_cons]; omega
theorem setO_more (os : List Opt) (n : Int) (v : List UInt8) : (setO os n (allV os n ++ [v])).length = os.length + 1 := by
 have := setO_count n os
 simp only [setO, List.length_append, eqO_len, List.length_cons, List.length_nil]; omega
theorem allV_mem {os : List Opt} {n : Int} {v : List UInt8} (h : v ∈ allV os n) : ∃ o ∈ os, o.val = v := by
 unfold allV at h
 obtain ⟨o, ho, rfl⟩ := List.mem_map.1 h
 exact ⟨o, (List.mem_filter.1 ho).1, rfl⟩
def numsL : List Int := [1, 3, 4, 6, 8, 11, 11, 12, 14, 15, 17, 23, 27, 28, 35, 60, 252, 258, 292, 9, 2, 13, 300, 65535]
def codesL : List Int := [1, 2, 3, 4, 5, 69, 69, 65, 67, 68, 132, 160, 0]
def CodeOk (c : Int) : Prop := 0 ≤ c ∧ c ≤ 255 ∧ ClsOk c
def IsCode (r : AV) : Prop := ∃ c : Int, CodeOk c ∧ r = .val (.int .i64 c)
def OptsOk (n : Nat) (os : List Opt) : Prop := AscO 0 os ∧ os.length ≤ n ∧ ∀ o ∈ os, o.val.length ≤ 5
def IsOpts (n : Nat) (r : AV) : Prop := ∃ os, OptsOk n os ∧ r = roO os
theorem OptsOk.add {c : Nat} {os : List Opt} (h : OptsOk c os) {n : Int} (hn : 0 ≤ n ∧ n ≤ 65535) {v : List UInt8} (hv : v.length ≤ 5) : OptsOk (c + 1) (setO os n (allV os n ++ [v])) := by
 have hm : ∀ w ∈ allV os n ++ [v], w.length ≤ 5 := fun w hw => by
  rcases List.mem_append.1 hw with hw | hw
  ·obtain ⟨o, ho, rfl⟩ := allV_mem hw
   exact h.2.2 o ho
  ·obtain rfl : w = v := by simpa using hw
   exact hv
 refine ⟨setO_asc h.1 hn fun w hw => by have := hm w hw; omega, by rw [setO_more]; have := h.2.1; omega, fun o ho => ?_⟩
 rcases setO_mem ho with ho | ⟨w, hw, rfl⟩
 ·exact h.2.2 o ho
 ·exact hm w hw
abbrev oM (os : List Opt) : Msg := ⟨0, 0, 0, [], os, []⟩
def MsgOk (c : Int) (m : Msg) : Prop := ValM m ∧ m.code = c ∧ m.tok.length ≤ 8 ∧ m.pay.length ≤ 20 ∧ m.opts.length ≤ 5 ∧ ∀ o ∈ m.opts, o.val.length ≤ 5
def IsMsg (c : Int) (r : AV) : Prop := ∃ m, MsgOk c m ∧ r = aggM m
theorem raw_small {m : Msg} (h1 : m.tok.length ≤ 8) (h2 : m.pay.length ≤ 20) (h3 : m.opts.length ≤ 5) (ha : AscO 0 m.opts) (h4 : ∀ o ∈ m.opts, o.val.length ≤ 5) : (raw m).length ≤ 4096 := by
 have key : ∀ (os : List Opt) (l : Int), (∀ o ∈ os, o.val.length ≤ 5) → (rawO l os).length ≤ os.length * 10 := by
  intro os
  induction os with
  | nil => intro l _; simp [rawO]
  | cons o os ih =>
   intro l h
   have g1 := ih o.num fun p hp => h p (List.mem_cons_of_mem _ hp)
   have g2 := hdr_len (o.num - l) o.val.length
   have g3 := h o (List.mem_cons_self ..)
   simp only [rawO, List.length_append, List.length_cons]; omega
 have g1 := key m.opts 0 h4
 have g2 : (if m.pay = [] then [] else (255 : UInt8) :: m.pay).length ≤ m.pay.length + 1 := by split <;> simp
 simp only [raw, headM, List.length_append, List.length_cons, List.length_nil] at g2 ⊢
 omega
theorem MsgOk.mk {t c i : Int} {x p : List UInt8} {os : List Opt} (ht : 0 ≤ t ∧ t < 2) (hc : CodeOk c) (hc0 : c ≠ 0) (hi : 0 ≤ i ∧ i < 65536) (hx : x.length ≤ 4) (ho : OptsOk 5 os) (hp : p.length ≤ 20) : MsgOk c ⟨t, c, i, x, os, p⟩ := by
 refine ⟨⟨⟨⟨ht.1, by simp only; omega, hc.1, hc.2.1, hc.2.2⟩, ⟨hi.1, by simp only; omega, by simp only; omega, by have := ho.2.1; simp only; omega⟩, ho.1, fun h => absurd h hc0, fun h => by simp only at h; omega, by simp only; omega⟩, ?_⟩, rfl, by simp only; omega, hp, ho.2.1, ho.2.2⟩
 have := raw_small (m := ⟨t, c, i, x, os, p⟩) (by simp only; omega) hp ho.2.1 ho.1 ho.2.2
 omega
theorem MsgOk.zero {t i : Int} (ht : 0 ≤ t ∧ t < 4) (hi : 0 ≤ i ∧ i < 65536) : MsgOk 0 ⟨t, 0, i, [], [], []⟩ := by
 refine ⟨⟨⟨⟨ht.1, by simp only; omega, by simp, by simp, .inl rfl⟩, ⟨hi.1, by simp only; omega, by simp, by simp⟩, trivial, fun _ => by simp, fun _ => rfl, by simp⟩, ?_⟩, rfl, by simp, by simp, by simp, by simp⟩
 have := raw_small (m := ⟨t, 0, i, [], [], []⟩) (by simp) (by simp) (by simp) trivial (by simp)
 omega
end Go.Proofs.YtoonnnifelnaiaaGreatDoor.By

namespace Go.Proofs.YtoonnnifelnaiaaGreatDoor.By
open Go.RowKit L A Dk
set_option linter.unusedVariables false
set_option maxRecDepth 20000
set_option linter.unusedSimpArgs false
attribute [local irreducible] AW AQ AO
def SmallM (m : Msg) : Prop := (m.opts.length ≤ 20 ∧ m.tok.length ≤ 900 ∧ m.pay.length ≤ 900) ∧ ∀ k, k < m.opts.length → (oat m.opts k).val.length ≤ 900
instance (m : Msg) : Decidable (SmallM m) := by unfold SmallM; infer_instance
def drL : List Int := [1, 3, 4, 6, 7, 11, 12, 14, 15, 16, 17, 23, 27, 39, 60, 252, 258, 292, 300]
theorem dr_in {n : Int} (h : n ∈ drL) : 0 ≤ n ∧ n ≤ 65535 := by
 have : ∀ n ∈ drL, 0 ≤ n ∧ n ≤ 65535 := by decide
 exact this n h
def Dr (n : Nat) (os : List Opt) : Prop := OptsOk n os ∧ ∀ o ∈ os, o.num ∈ drL
theorem Dr.add {c : Nat} {os : List Opt} (h : Dr c os) {n : Int} (hn : n ∈ drL) {v : List UInt8} (hv : v.length ≤ 5) : Dr (c + 1) (setO os n (allV os n ++ [v])) :=
 ⟨h.1.add (dr_in hn) hv, fun o ho => by
  rcases setO_mem ho with ho | ⟨w, hw, rfl⟩
  ·exact h.2 o ho
  ·exact hn⟩
abbrev wO (m : Msg) (os : List Opt) : Msg := ⟨m.ty, m.code, m.id, m.tok, os, m.pay⟩
def rqL : List Int := [69, 68, 65, 132, 129, 160, 95]
def DM (q : Bool) (m : Msg) : Prop := (0 ≤ m.ty ∧ m.ty ≤ 2) ∧ (if q = true then 1 ≤ m.code ∧ m.code ≤ 7 else m.code ∈ rqL) ∧ (0 ≤ m.id ∧ m.id < 65536) ∧ (m.tok.length ≤ 4 ∧ m.pay.length ≤ 20) ∧ Dr 5 m.opts
def IsDM (q : Bool) (r : AV) : Prop := ∃ m, DM q m ∧ r = aggM m
theorem DM.code {q : Bool} {m : Msg} (h : DM q m) : CodeOk m.code ∧ rq m.code = q ∧ rs m.code = !q := by
 obtain ⟨-, h, -⟩ := h
 cases q
 ·rw [if_neg (by simp)] at h
  have : ∀ c ∈ rqL, (0 ≤ c ∧ c ≤ 255 ∧ (c / 32 = 0 ∨ c / 32 = 2 ∨ c / 32 = 4 ∨ c / 32 = 5)) ∧ rq c = false ∧ rs c = true := by decide
  exact this _ h
 ·rw [if_pos rfl] at h
  refine ⟨⟨by omega, by omega, ?_⟩, ?_, ?_⟩
  ·unfold ClsOk; omega
  ·unfold rq; rw [decide_eq_true h.1, decide_eq_true (show m.code ≤ 31 by omega)]; rfl
  ·unfold rs; exact decide_eq_false (by omega)
theorem DM.val {q : Bool} {m : Msg} (h : DM q m) : ValM m := by
 obtain ⟨c1, -, -⟩ := h.code
 obtain ⟨h1, h2, h3, h4, h5⟩ := h
 have hn0 : m.code ≠ 0 := by
  cases q
  ·rw [if_neg (by simp)] at h2
   have : ∀ c ∈ rqL, c ≠ 0 := by decide
   exact this _ h2
  ·rw [if_pos rfl] at h2; omega
 refine ⟨⟨⟨h1.1, by omega, c1.1, c1.2.1, c1.2.2⟩, ⟨h3.1, by omega, by omega, by have := h5.1.2.1; omega⟩, h5.1.1, fun h => absurd h hn0, fun h => by omega, by omega⟩, ?_⟩
 have := raw_small (m := m) (by omega) h4.2 h5.1.2.1 h5.1.1 h5.1.2.2
 omega
end Go.Proofs.YtoonnnifelnaiaaGreatDoor.By

namespace Go.Proofs.YtoonnnifelnaiaaGreatDoor.By
open Go.RowKit L A Dk
set_option linter.unusedVariables false
set_option maxRecDepth 20000
set_option linter.unusedSimpArgs false
attribute [local irreducible] AW AQ AO
def exS : Msg := ⟨0, 1, 0, [], [⟨6, []⟩, ⟨11, [97]⟩], []⟩
def exA : Msg := ⟨0, 1, 0, [], [⟨6, []⟩, ⟨11, [97]⟩], []⟩
def exB : Msg := ⟨0, 5, 0, [], [⟨6, []⟩], []⟩
end Go.Proofs.YtoonnnifelnaiaaGreatDoor.By

namespace Go.Proofs.YtoonnnifelnaiaaGreatDoor.By
open Go.RowKit L A
set_option linter.unusedVariables false
set_option maxRecDepth 20000
set_option linter.unusedSimpArgs false
attribute [local irreducible] AW AQ AO
set_option maxHeartbeats 4000000 in
theorem oall_fn (m : Msg) (n : Int) (h3 : m.opts.length ≤ 1000000) (hat : ∀ o ∈ m.opts, o.val.length ≤ 140737488355328) : Sp Tryz.prog 94 [aggM m, .val (.int .i64 n)] [] (Is (roBs (allV m.opts n))) := by
 refine Sp.enter Tryz.func94 rfl _ Tryz.ntmps94 rfl (fun w0 R0 => ?_)
 refine AW.seq ?_
 refine AW.region ?_
 refine AO.opB (O.box rfl rfl rfl rfl rfl) rfl rfl rfl ?_
 intro B1
 refine AO.op (O.assign rfl rfl) rfl rfl rfl ?_
 refine AO.nil ?_
 refine AQ.thenN ?_
 refine AW.seq ?_
 refine AW.region ?_
 refine AO.op (O.assign rfl rfl) rfl rfl rfl ?_
 refine AO.nil ?_
 refine AQ.thenN ?_
 refine AW.seq ?_
 refine AW.seq ?_
 refine AW.region ?_
 refine AO.op (O.fieldAddr rfl rfl) rfl rfl rfl ?_
 refine AO.op (O.load rfl rfl (by repeat (exact List.Mem.head _)) (by rfl)) rfl rfl rfl ?_
 refine AO.op (O.lenR rfl rfl) rfl rfl rfl ?_
 refine AO.op (O.move rfl rfl) rfl rfl rfl ?_
 refine AO.nil ?_
 refine AQ.thenN ?_
 refine AW.block ?_
 refine AW.g ?_
 refine G.nilRow 31 1 ?_
 refine AW.u ?_
 refine AW.loopK [(1, _), (9, _), (10, _)] (fun nn E H => ∃ (k : Nat) (V : Value), (k ≤ m.opts.length) ∧ (V.oneCell' = true) ∧ nn = m.opts.length - k ∧ E = [(5, .val V), (11, .val (.int .i64 (k : Int)))] ∧ H = [.row V 31 1 (allV (m.opts.take k) n).length (bsA (allV (m.opts.take k) n)), .blk B1 41 6 [.val (.int .i64 m.ty), .val (.int .i64 m.code), .val (.int .i64 m.id), roB m.tok, roO m.opts, roB m.pay]]) _ (⟨0, _, by omega, rfl, rfl, rfl, rfl⟩) (by repeat (first | exact envNil | refine envCons rfl ?_)) (by repeat (first | exact envNil | refine envCons rfl ?_)) (by repeat (first | exact subPnil | refine subPcons 0 rfl ?_)) ?_
 rintro nn E H ⟨k, V, h4, hV, rfl, rfl, rfl⟩
 dsimp only [List.cons_append, List.nil_append]
 have hl := allV_len (m.opts.take k) n
 rw [List.length_take] at hl
 refine AW.seq ?_
 refine AW.region ?_
 refine AO.op (O.lss rfl rfl rfl (by rfl)) rfl rfl rfl ?_
 refine AO.nil ?_
 refine AQ.thenN ?_
 refine AW.seq ?_
 refine AW.split rfl (fun h5 => ?_) (fun h5 => ?_) <;> (try simp only [decide_eq_true_eq, decide_eq_false_iff_not, beq_iff_eq, beq_eq_false_iff_ne, bne_iff_ne, bne_eq_false_iff_eq, Bool.not_eq_true', Bool.not_eq_false', Bool.not_eq_true, Bool.not_eq_false, ne_eq, Int.not_lt, Int.not_le, Bool.and_eq_true, Bool.or_eq_true, Bool.or_eq_false_iff, Bool.and_eq_false_imp, strOf_toList, Decidable.not_not] at h5)
 ·skip
  have hk : k < m.opts.length := by omega
  have hv : (oat m.opts k).val.length ≤ 140737488355328 := hat _ (getD_mem Opt.none hk)
  have hsc := allV_snoc (m.opts.take k) (oat m.opts k) n
  rw [← take_snoc Opt.none hk] at hsc
  refine AW.skip ?_
  refine AQ.thenN ?_
  refine AW.seq ?_
  refine AW.block ?_
  refine AW.seq ?_
  refine AW.region ?_
  refine AO.op (O.idxR rfl rfl rfl ⟨(by omega), (by omega)⟩) rfl rfl rfl ?_
  refine AO.op (O.loadRK rfl rfl (by exact getO (by omega) (by omega)) (by rfl)) rfl rfl rfl ?_
  refine AO.opB (O.alloc rfl (by (dsimp only [zerosA, List.replicate, List.append, List.flatten, AV.cells, Value.cells, List.toList_toArray, List.map]; done)) (by rfl)) rfl rfl rfl ?_
  intro B2
  (refine AO.store (i := 0) rfl rfl rfl rfl rfl rfl (by rfl) (by rfl) (by rfl) (by (dsimp only [List.set, List.cons_append, List.nil_append, List.take, List.drop]; done)) (by (dsimp only [List.set, List.cons_append, List.nil_append, List.take, List.drop]; done)) ?_)
  refine AO.nil ?_
  refine AQ.thenN ?_
  refine AW.seq ?_
  refine AW.region ?_
  refine AO.op (O.fieldAddr rfl rfl) rfl rfl rfl ?_
  refine AO.op (O.load rfl rfl (by repeat (exact List.Mem.head _)) (by rfl)) rfl rfl rfl ?_
  refine AO.op (O.move rfl rfl) rfl rfl rfl ?_
  refine AO.op (O.eql rfl rfl rfl (by rfl)) rfl rfl rfl ?_
  refine AO.nil ?_
  refine AQ.thenN ?_
  refine AW.split rfl (fun h6 => ?_) (fun h6 => ?_) <;> (try simp only [decide_eq_true_eq, decide_eq_false_iff_not, beq_iff_eq, beq_eq_false_iff_ne, bne_iff_ne, bne_eq_false_iff_eq, Bool.not_eq_true', Bool.not_eq_false', Bool.not_eq_true, Bool.not_eq_false, ne_eq, Int.not_lt, Int.not_le, Bool.and_eq_true, Bool.or_eq_true, Bool.or_eq_false_iff, Bool.and_eq_false_imp, strOf_toList, Decidable.not_not] at h6)
  ·skip
   rw [if_pos h6] at hsc
   refine AW.region ?_
   refine AO.op (O.move rfl rfl) rfl rfl rfl ?_
   refine AO.op (O.fieldAddr rfl rfl) rfl rfl rfl ?_
   refine AO.op (O.load rfl rfl (by repeat (exact List.Mem.head _)) (by rfl)) rfl rfl rfl ?_
   refine AO.op (O.call rfl Tryz.func49 rfl rfl rfl (clone_fn _ (by assumption))) rfl rfl rfl ?_
   refine AO.opB (O.buildSlice rfl rfl rfl (by rfl) (by rfl) (by rfl) (by rfl)) rfl rfl rfl ?_
   intro B3
   refine AO.g ?_
   (refine G.freezeSl 0 23 rfl rfl ⟨Nat.le_refl _, by unfold maxLen; omega⟩ ?_)
   refine G.unfull 23 rfl ?_
   refine AO.u ?_
   dsimp only [List.eraseIdx]
   (refine AO.append' (i := 1) rfl rfl rfl rfl (by rfl) (by rfl) rfl rfl rfl (by exact SrcA.ro TyD.ax (by rfl) (Nat.le_of_ble_eq_true rfl)) (by rfl) (by (unfold maxLen; omega)) (by omega) (by (dsimp only [List.set, List.cons_append, List.nil_append, List.take, List.drop]; done)) (fun _ => by (dsimp only [List.set]; done)) ?_)
   intro V4 hV4
   refine AO.op (O.assign rfl rfl) rfl rfl rfl ?_
   refine AO.nil ?_
   refine AQ.blockN ?_
   refine AQ.thenN ?_
   refine AW.region ?_
   refine AO.op (O.add rfl rfl rfl (by exact wI64 (by omega))) rfl rfl rfl ?_
   refine AO.op (O.move rfl rfl) rfl rfl rfl ?_
   refine AO.nil ?_
   refine AQ.loopKN _ _ _ (by omega) (⟨k + 1, _, by omega, ‹_›, rfl, rfl, by rw [hsc, bsA_snoc, List.length_append]⟩) (by repeat (first | exact envNil | refine envCons rfl ?_)) (by repeat (first | exact envNil | refine envCons rfl ?_)) (by repeat (first | exact subPnil | refine subPcons 1 rfl ?_))
  ·skip
   rw [if_neg h6] at hsc
   refine AW.skip ?_
   refine AQ.blockN ?_
   refine AQ.thenN ?_
   refine AW.region ?_
   refine AO.op (O.add rfl rfl rfl (by exact wI64 (by omega))) rfl rfl rfl ?_
   refine AO.op (O.move rfl rfl) rfl rfl rfl ?_
   refine AO.nil ?_
   refine AQ.loopKN _ _ _ (by omega) (⟨k + 1, _, by omega, hV, rfl, rfl, by rw [hsc]⟩) (by repeat (first | exact envNil | refine envCons rfl ?_)) (by repeat (first | exact envNil | refine envCons rfl ?_)) (by repeat (first | exact subPnil | refine subPcons 1 rfl ?_))
 ·skip
  obtain rfl : k = m.opts.length := by omega
  rw [List.take_length]
  refine AW.g ?_
  (refine G.freezeRow 0 rfl [5] (by (repeat (first | exact frNil | refine frCons rfl ?_)); done) ?_)
  refine AW.u ?_
  try dsimp only [List.map, List.eraseIdx, List.cons_append, List.nil_append]
  refine AW.exit ?_
  refine AQ.thenX ?_
  refine AQ.loopX ?_
  refine AQ.blockX rfl ?_
  refine AQ.thenN ?_
  refine AW.seq ?_
  refine AW.region ?_
  refine AO.op (O.move rfl rfl) rfl rfl rfl ?_
  refine AO.op (O.assign rfl rfl) rfl rfl rfl ?_
  refine AO.nil ?_
  refine AQ.thenN ?_
  refine AW.ret ?_
  refine AQ.ret1 rfl rfl ⟨_, List.nil_sublist _, .nil⟩ (⟨rfl, rfl⟩)
set_option maxHeartbeats 4000000 in
theorem owned_fn (m : Msg) (os : List Opt) (h1 : m.tok.length ≤ 140737488355328) (h2 : m.pay.length ≤ 140737488355328) (h3 : os.length ≤ 1000000) (hat : ∀ o ∈ os, o.val.length ≤ 140737488355328) :
  Sp Tryz.prog 48 [aggM m, roO os] [] (Is (aggM ⟨m.ty, m.code, m.id, m.tok, os, m.pay⟩)) := by
 refine Sp.enter Tryz.func48 rfl _ Tryz.ntmps48 rfl (fun w0 R0 => ?_)
 refine AW.seq ?_
 refine AW.region ?_
 refine AO.opB (O.box rfl rfl rfl rfl rfl) rfl rfl rfl ?_
 intro B1
 refine AO.opB (O.alloc rfl (by (dsimp only [zerosA, List.replicate, List.append, List.flatten, AV.cells, Value.cells, List.toList_toArray, List.map]; done)) (by rfl)) rfl rfl rfl ?_
 intro B2
 refine AO.nil ?_
 refine AQ.thenN ?_
 refine AW.seq ?_
 refine AW.regionD 7 (by kernel_rfl) (by kernel_rfl) ?_
 simp only [List.take_succ_cons, List.take_zero, List.drop_succ_cons, List.drop_zero]
 refine FA.op (O.fieldAddr rfl rfl) rfl rfl rfl rfl ?_
 refine FA.op (O.load rfl rfl (by repeat (first | exact List.Mem.head _ | refine List.Mem.tail _ ?_)) (by rfl)) rfl rfl rfl rfl ?_
 refine FA.op (O.call rfl Tryz.func49 rfl rfl rfl (clone_fn _ (by assumption))) rfl rfl rfl rfl ?_
 refine FA.op (O.fieldAddr rfl rfl) rfl rfl rfl rfl ?_
 refine FA.op (O.load rfl rfl (by repeat (first | exact List.Mem.head _ | refine List.Mem.tail _ ?_)) (by rfl)) rfl rfl rfl rfl ?_
 refine FA.op (O.call rfl Tryz.func49 rfl rfl rfl (clone_fn _ (by assumption))) rfl rfl rfl rfl ?_
 refine FA.op (O.fieldAddr rfl rfl) rfl rfl rfl rfl ?_
 refine FA.nil ?_
 simp only [chosen, List.nil_append, List.cons_append, List.append_nil]
 (refine AO.store (i := 1) rfl rfl rfl rfl rfl rfl (by rfl) (by rfl) (by rfl) (by (dsimp only [List.set, List.cons_append, List.nil_append, List.take, List.drop]; done)) (by (dsimp only [List.set, List.cons_append, List.nil_append, List.take, List.drop]; done)) ?_)
 refine AO.op (O.fieldAddr rfl rfl) rfl rfl rfl ?_
 (refine AO.store (i := 1) rfl rfl rfl rfl rfl rfl (by rfl) (by rfl) (by rfl) (by (dsimp only [List.set, List.cons_append, List.nil_append, List.take, List.drop]; done)) (by (dsimp only [List.set, List.cons_append, List.nil_append, List.take, List.drop]; done)) ?_)
 refine AO.nil ?_
 refine AQ.thenN ?_
 refine AW.seq ?_
 refine AW.region ?_
 refine AO.op (O.fieldAddr rfl rfl) rfl rfl rfl ?_
 (refine AO.store (i := 1) rfl rfl rfl rfl rfl rfl (by rfl) (by rfl) (by rfl) (by (dsimp only [List.set, List.cons_append, List.nil_append, List.take, List.drop]; done)) (by (dsimp only [List.set, List.cons_append, List.nil_append, List.take, List.drop]; done)) ?_)
 refine AO.nil ?_
 refine AQ.thenN ?_
 refine AW.seq ?_
 refine AW.seq ?_
 refine AW.region ?_
 refine AO.op (O.move rfl rfl) rfl rfl rfl ?_
 refine AO.op (O.lenR rfl rfl) rfl rfl rfl ?_
 refine AO.op (O.move rfl rfl) rfl rfl rfl ?_
 refine AO.nil ?_
 refine AQ.thenN ?_
 refine AW.block ?_
 refine AW.g ?_
 refine G.nilRow 74 2 ?_
 refine AW.u ?_
 refine AW.loopK [(2, _), (4, _), (16, _), (17, _)] (fun nn E H => ∃ (k : Nat) (V : Value), (k ≤ os.length) ∧ (V.oneCell' = true) ∧ nn = os.length - k ∧ E = [(18, .val (.int .i64 (k : Int)))] ∧ H = [.row V 74 2 k (optsA (os.take k)), .blk B2 41 6 [.val (.int .i64 0), .val (.int .i64 0), .val (.int .i64 0), .val (.slice none 0 0), .val (.slice none 0 0), .val (.slice none 0 0)], .blk B1 41 6 [.val (.int .i64 m.ty), .val (.int .i64 m.code), .val (.int .i64 m.id), roB m.tok, .val V, roB m.pay]]) _ (⟨0, _, by omega, rfl, rfl, rfl, rfl⟩) (by repeat (first | exact envNil | refine envCons rfl ?_)) (by repeat (first | exact envNil | refine envCons rfl ?_)) (by repeat (first | exact subPnil | refine subPcons 0 rfl ?_)) ?_
 rintro nn E H ⟨k, V, h4, hV, rfl, rfl, rfl⟩
 dsimp only [List.cons_append, List.nil_append]
 refine AW.seq ?_
 refine AW.region ?_
 refine AO.op (O.lss rfl rfl rfl (by rfl)) rfl rfl rfl ?_
 refine AO.nil ?_
 refine AQ.thenN ?_
 refine AW.seq ?_
 refine AW.split rfl (fun h5 => ?_) (fun h5 => ?_) <;> (try simp only [decide_eq_true_eq, decide_eq_false_iff_not, beq_iff_eq, beq_eq_false_iff_ne, bne_iff_ne, bne_eq_false_iff_eq, Bool.not_eq_true', Bool.not_eq_false', Bool.not_eq_true, Bool.not_eq_false, ne_eq, Int.not_lt, Int.not_le, Bool.and_eq_true, Bool.or_eq_true, Bool.or_eq_false_iff, Bool.and_eq_false_imp, strOf_toList, Decidable.not_not] at h5)
 ·skip
  have hk : k < os.length := by omega
  have hv : (oat os k).val.length ≤ 140737488355328 := hat _ (getD_mem Opt.none hk)
  have hsc : optsA (os.take (k + 1)) = optsA (os.take k) ++ [.val (.int .i64 (oat os k).num), roB (oat os k).val] := by rw [take_snoc Opt.none hk, optsA_snoc]
  refine AW.skip ?_
  refine AQ.thenN ?_
  refine AW.seq ?_
  refine AW.block ?_
  refine AW.seq ?_
  refine AW.region ?_
  refine AO.op (O.idxR rfl rfl rfl ⟨(by omega), (by omega)⟩) rfl rfl rfl ?_
  refine AO.op (O.loadRK rfl rfl (by exact getO (by omega) (by omega)) (by rfl)) rfl rfl rfl ?_
  refine AO.opB (O.alloc rfl (by (dsimp only [zerosA, List.replicate, List.append, List.flatten, AV.cells, Value.cells, List.toList_toArray, List.map]; done)) (by rfl)) rfl rfl rfl ?_
  intro B3
  (refine AO.store (i := 0) rfl rfl rfl rfl rfl rfl (by rfl) (by rfl) (by rfl) (by (dsimp only [List.set, List.cons_append, List.nil_append, List.take, List.drop]; done)) (by (dsimp only [List.set, List.cons_append, List.nil_append, List.take, List.drop]; done)) ?_)
  refine AO.nil ?_
  refine AQ.thenN ?_
  refine AW.regionD 9 (by kernel_rfl) (by kernel_rfl) ?_
  simp only [List.take_succ_cons, List.take_zero, List.drop_succ_cons, List.drop_zero]
  refine FA.op (O.fieldAddr rfl rfl) rfl rfl rfl rfl ?_
  refine FA.op (O.load rfl rfl (by repeat (first | exact List.Mem.head _ | refine List.Mem.tail _ ?_)) (by rfl)) rfl rfl rfl rfl ?_
  refine FA.op (O.fieldAddr rfl rfl) rfl rfl rfl rfl ?_
  refine FA.op (O.load rfl rfl (by repeat (exact List.Mem.head _)) (by rfl)) rfl rfl rfl rfl ?_
  refine FA.op (O.fieldAddr rfl rfl) rfl rfl rfl rfl ?_
  refine FA.op (O.load rfl rfl (by repeat (exact List.Mem.head _)) (by rfl)) rfl rfl rfl rfl ?_
  refine FA.op (O.call rfl Tryz.func49 rfl rfl rfl (clone_fn _ (by assumption))) rfl rfl rfl rfl ?_
  refine FA.op (O.build rfl rfl rfl (by rfl)) rfl rfl rfl rfl ?_
  refine FA.op (OpW.frz (O.buildSlice rfl rfl rfl (by rfl) (by rfl) (by rfl) (by rfl)) (by (unfold maxLen; omega))) rfl rfl rfl rfl ?_
  refine FA.nil ?_
  simp only [chosen, List.nil_append, List.cons_append, List.append_nil]
  (refine AO.append' (i := 1) rfl rfl rfl rfl (by rfl) (by rfl) rfl rfl rfl (by exact SrcA.ro TyD.ax (by rfl) (Nat.le_of_ble_eq_true rfl)) (by rfl) (by (unfold maxLen; omega)) (by omega) (by (dsimp only [List.set, List.cons_append, List.nil_append, List.take, List.drop]; done)) (fun _ => by (dsimp only [List.set]; done)) ?_)
  intro V4 hV4
  refine AO.op (O.fieldAddr rfl rfl) rfl rfl rfl ?_
  (refine AO.store (i := 3) rfl rfl rfl rfl rfl rfl (by (simp [AV.cells, AV.one, *]; done)) (by rfl) (by rfl) (by (dsimp only [List.set, List.cons_append, List.nil_append, List.take, List.drop]; done)) (by (dsimp only [List.set, List.cons_append, List.nil_append, List.take, List.drop]; done)) ?_)
  refine AO.nil ?_
  refine AQ.blockN ?_
  refine AQ.thenN ?_
  refine AW.region ?_
  refine AO.op (O.add rfl rfl rfl (by exact wI64 (by omega))) rfl rfl rfl ?_
  refine AO.op (O.move rfl rfl) rfl rfl rfl ?_
  refine AO.nil ?_
  refine AQ.loopKN _ _ _ (by omega) (⟨k + 1, _, by omega, ‹_›, rfl, rfl, by rw [hsc]⟩) (by repeat (first | exact envNil | refine envCons rfl ?_)) (by repeat (first | exact envNil | refine envCons rfl ?_)) (by repeat (first | exact subPnil | refine subPcons 1 rfl ?_))
 ·skip
  obtain rfl : k = os.length := by omega
  rw [List.take_length]
  refine AW.g ?_
  refine G.freezeCell 0 1 4 rfl rfl rfl ?_
  refine AW.u ?_
  refine AW.exit ?_
  refine AQ.thenX ?_
  refine AQ.loopX ?_
  refine AQ.blockX rfl ?_
  refine AQ.thenN ?_
  refine AW.seq ?_
  refine AW.region ?_
  (refine AO.op (O.loadK rfl rfl (by repeat (first | exact List.Mem.head _ | refine List.Mem.tail _ ?_)) (by (dsimp only [List.set, List.cons_append, List.nil_append, List.take, List.drop]; done)) (by rfl)) rfl rfl rfl ?_)
  (refine AO.store (i := 0) rfl rfl rfl rfl rfl rfl (by rfl) (by rfl) (by rfl) (by (dsimp only [List.set, List.cons_append, List.nil_append, List.take, List.drop]; done)) (by (dsimp only [List.set, List.cons_append, List.nil_append, List.take, List.drop]; done)) ?_)
  refine AO.nil ?_
  refine AQ.thenN ?_
  refine AW.ret ?_
  refine AQ.retCell rfl rfl (by repeat (exact List.Mem.head _)) (by (dsimp only [List.set, List.cons_append, List.nil_append, List.take, List.drop]; rfl)) rfl ⟨_, List.nil_sublist _, .nil⟩ (⟨rfl, rfl⟩)
theorem owned_of {m : Msg} {os : List Opt} {N : Nat} {xs : List AV} (e1 : N = os.length) (e2 : xs = optsA os) (h1 : m.tok.length ≤ 140737488355328) (h2 : m.pay.length ≤ 140737488355328) (h3 : os.length ≤ 1000000) (hat : ∀ o ∈ os, o.val.length ≤ 140737488355328) :
  Sp Tryz.prog 48 [aggM m, .ro false N xs] [] (Is (aggM ⟨m.ty, m.code, m.id, m.tok, os, m.pay⟩)) := by
 subst e1; subst e2; exact owned_fn m os h1 h2 h3 hat
set_option maxHeartbeats 4000000 in
theorem oset_fn (m : Msg) (n : Int) (vs : List (List UInt8)) (h1 : m.tok.length ≤ 140737488355328) (h2 : m.pay.length ≤ 140737488355328) (h3 : m.opts.length ≤ 100000) (h4 : vs.length ≤ 100000) (hat : ∀ o ∈ m.opts, o.val.length ≤ 140737488355328) (hvs : ∀ v ∈ vs, v.length ≤ 140737488355328) :
  Sp Tryz.prog 15 [aggM m, .val (.int .i64 n), roBs vs] [] (Is (aggM ⟨m.ty, m.code, m.id, m.tok, setO m.opts n vs, m.pay⟩)) := by
 have hat2 : ∀ o ∈ setO m.opts n vs, o.val.length ≤ 140737488355328 := fun o ho => by
  rcases setO_mem ho with h | ⟨v, h, rfl⟩
  ·exact hat o h
  ·exact hvs v h
 have hsl := setO_len m.opts n vs
 refine Sp.enter Tryz.func15 rfl _ Tryz.ntmps15 rfl (fun w0 R0 => ?_)
 refine AW.seq ?_
 refine AW.region ?_
 refine AO.opB (O.box rfl rfl rfl rfl rfl) rfl rfl rfl ?_
 intro B1
 refine AO.opB (O.alloc rfl (by (dsimp only [zerosA, List.replicate, List.append, List.flatten, AV.cells, Value.cells, List.toList_toArray, List.map]; done)) (by rfl)) rfl rfl rfl ?_
 intro B2
 refine AO.nil ?_
 refine AQ.thenN ?_
 refine AW.seq ?_
 refine AW.region ?_
 refine AO.op (O.assign rfl rfl) rfl rfl rfl ?_
 refine AO.op (O.assign rfl rfl) rfl rfl rfl ?_
 refine AO.nil ?_
 refine AQ.thenN ?_
 refine AW.seq ?_
 refine AW.seq ?_
 refine AW.region ?_
 refine AO.op (O.fieldAddr rfl rfl) rfl rfl rfl ?_
 refine AO.op (O.load rfl rfl (by repeat (first | exact List.Mem.head _ | refine List.Mem.tail _ ?_)) (by rfl)) rfl rfl rfl ?_
 refine AO.op (O.lenR rfl rfl) rfl rfl rfl ?_
 refine AO.op (O.move rfl rfl) rfl rfl rfl ?_
 refine AO.nil ?_
 refine AQ.thenN ?_
 refine AW.block ?_
 refine AW.g ?_
 refine G.nilRow 74 2 ?_
 refine AW.u ?_
 refine AW.g ?_
 refine G.nilRow 74 2 ?_
 refine AW.u ?_
 refine AW.loopK [(1, _), (2, _), (3, _), (6, _), (14, _), (15, _)] (fun nn E H => ∃ (k : Nat) (V V' : Value), (k ≤ m.opts.length) ∧ (V.oneCell' = true) ∧ (V'.oneCell' = true) ∧ nn = m.opts.length - k ∧ E = [(7, .val V), (8, .val V'), (16, .val (.int .i64 (k : Int)))] ∧ H = [.row V 74 2 (ltO (m.opts.take k) n).length (optsA (ltO (m.opts.take k) n)), .row V' 74 2 (gtO (m.opts.take k) n).length (optsA (gtO (m.opts.take k) n)), .blk B2 41 6 [.val (.int .i64 0), .val (.int .i64 0), .val (.int .i64 0), .val (.slice none 0 0), .val (.slice none 0 0), .val (.slice none 0 0)], .blk B1 41 6 [.val (.int .i64 m.ty), .val (.int .i64 m.code), .val (.int .i64 m.id), roB m.tok, roO m.opts, roB m.pay]]) _ (⟨0, _, _, by omega, rfl, rfl, rfl, rfl, rfl⟩) (by repeat (first | exact envNil | refine envCons rfl ?_)) (by repeat (first | exact envNil | refine envCons rfl ?_)) (by repeat (first | exact subPnil | refine subPcons 0 rfl ?_)) ?_
 rintro nn E H ⟨k, V, V', h5, hV, hV', rfl, rfl, rfl⟩
 dsimp only [List.cons_append, List.nil_append]
 have hl1 := ltO_len (m.opts.take k) n
 have hl2 := gtO_len (m.opts.take k) n
 rw [List.length_take] at hl1 hl2
 refine AW.seq ?_
 refine AW.region ?_
 refine AO.op (O.lss rfl rfl rfl (by rfl)) rfl rfl rfl ?_
 refine AO.nil ?_
 refine AQ.thenN ?_
 refine AW.seq ?_
 refine AW.split rfl (fun h6 => ?_) (fun h6 => ?_) <;> (try simp only [decide_eq_true_eq, decide_eq_false_iff_not, beq_iff_eq, beq_eq_false_iff_ne, bne_iff_ne, bne_eq_false_iff_eq, Bool.not_eq_true', Bool.not_eq_false', Bool.not_eq_true, Bool.not_eq_false, ne_eq, Int.not_lt, Int.not_le, Bool.and_eq_true, Bool.or_eq_true, Bool.or_eq_false_iff, Bool.and_eq_false_imp, strOf_toList, Decidable.not_not] at h6)
 ·skip
  have hk : k < m.opts.length := by omega
  have hsc := ltO_snoc (m.opts.take k) (oat m.opts k) n
  have hsg := gtO_snoc (m.opts.take k) (oat m.opts k) n
  rw [← take_snoc Opt.none hk] at hsc hsg
  refine AW.skip ?_
  refine AQ.thenN ?_
  refine AW.seq ?_
  refine AW.block ?_
  refine AW.seq ?_
  refine AW.region ?_
  refine AO.op (O.idxR rfl rfl rfl ⟨(by omega), (by omega)⟩) rfl rfl rfl ?_
  refine AO.op (O.loadRK rfl rfl (by exact getO (by omega) (by omega)) (by rfl)) rfl rfl rfl ?_
  refine AO.opB (O.alloc rfl (by (dsimp only [zerosA, List.replicate, List.append, List.flatten, AV.cells, Value.cells, List.toList_toArray, List.map]; done)) (by rfl)) rfl rfl rfl ?_
  intro B3
  (refine AO.store (i := 0) rfl rfl rfl rfl rfl rfl (by rfl) (by rfl) (by rfl) (by (dsimp only [List.set, List.cons_append, List.nil_append, List.take, List.drop]; done)) (by (dsimp only [List.set, List.cons_append, List.nil_append, List.take, List.drop]; done)) ?_)
  refine AO.nil ?_
  refine AQ.thenN ?_
  refine AW.block ?_
  refine AW.seq ?_
  refine AW.region ?_
  refine AO.op (O.fieldAddr rfl rfl) rfl rfl rfl ?_
  refine AO.op (O.load rfl rfl (by repeat (exact List.Mem.head _)) (by rfl)) rfl rfl rfl ?_
  refine AO.op (O.move rfl rfl) rfl rfl rfl ?_
  refine AO.op (O.lss rfl rfl rfl (by rfl)) rfl rfl rfl ?_
  refine AO.op (O.assign rfl rfl) rfl rfl rfl ?_
  refine AO.nil ?_
  refine AQ.thenN ?_
  refine AW.split rfl (fun h7 => ?_) (fun h7 => ?_) <;> (try simp only [decide_eq_true_eq, decide_eq_false_iff_not, beq_iff_eq, beq_eq_false_iff_ne, bne_iff_ne, bne_eq_false_iff_eq, Bool.not_eq_true', Bool.not_eq_false', Bool.not_eq_true, Bool.not_eq_false, ne_eq, Int.not_lt, Int.not_le, Bool.and_eq_true, Bool.or_eq_true, Bool.or_eq_false_iff, Bool.and_eq_false_imp, strOf_toList, Decidable.not_not] at h7)
  ·skip
   rw [if_pos h7] at hsc
   rw [if_neg (by omega)] at hsg
   refine AW.region ?_
   refine AO.op (O.move rfl rfl) rfl rfl rfl ?_
   (refine AO.op (O.loadK rfl rfl (by repeat (exact List.Mem.head _)) (by (dsimp only [List.set, List.cons_append, List.nil_append, List.take, List.drop]; done)) (by rfl)) rfl rfl rfl ?_)
   refine AO.opB (O.buildSlice rfl rfl rfl (by rfl) (by rfl) (by rfl) (by rfl)) rfl rfl rfl ?_
   intro B4
   refine AO.g ?_
   (refine G.freezeSl 0 27 rfl rfl ⟨Nat.le_refl _, by unfold maxLen; omega⟩ ?_)
   refine G.unfull 27 rfl ?_
   refine AO.u ?_
   dsimp only [List.eraseIdx]
   (refine AO.append' (i := 1) rfl rfl rfl rfl (by rfl) (by rfl) rfl rfl rfl (by exact SrcA.ro TyD.ax (by rfl) (Nat.le_of_ble_eq_true rfl)) (by rfl) (by (unfold maxLen; omega)) (by omega) (by (dsimp only [List.set, List.cons_append, List.nil_append, List.take, List.drop]; done)) (fun _ => by (dsimp only [List.set]; done)) ?_)
   intro V5 hV5
   refine AO.op (O.assign rfl rfl) rfl rfl rfl ?_
   refine AO.nil ?_
   refine AQ.blockN ?_
   refine AQ.blockN ?_
   refine AQ.thenN ?_
   refine AW.region ?_
   refine AO.op (O.add rfl rfl rfl (by exact wI64 (by omega))) rfl rfl rfl ?_
   refine AO.op (O.move rfl rfl) rfl rfl rfl ?_
   refine AO.nil ?_
   refine AQ.loopKN _ _ _ (by omega) (⟨k + 1, _, V', by omega, ‹_›, hV', rfl, rfl, by rw [hsc, hsg, optsA_snoc, List.length_append]⟩) (by repeat (first | exact envNil | refine envCons rfl ?_)) (by repeat (first | exact envNil | refine envCons rfl ?_)) (by repeat (first | exact subPnil | refine subPcons 1 rfl ?_))
  ·skip
   rw [if_neg (by omega)] at hsc
   refine AW.seq ?_
   refine AW.region ?_
   refine AO.op (O.fieldAddr rfl rfl) rfl rfl rfl ?_
   refine AO.op (O.load rfl rfl (by repeat (exact List.Mem.head _)) (by rfl)) rfl rfl rfl ?_
   refine AO.op (O.move rfl rfl) rfl rfl rfl ?_
   refine AO.op (O.gtr rfl rfl rfl (by rfl)) rfl rfl rfl ?_
   refine AO.op (O.assign rfl rfl) rfl rfl rfl ?_
   refine AO.nil ?_
   refine AQ.thenN ?_
   refine AW.split rfl (fun h8 => ?_) (fun h8 => ?_) <;> (try simp only [decide_eq_true_eq, decide_eq_false_iff_not, beq_iff_eq, beq_eq_false_iff_ne, bne_iff_ne, bne_eq_false_iff_eq, Bool.not_eq_true', Bool.not_eq_false', Bool.not_eq_true, Bool.not_eq_false, ne_eq, Int.not_lt, Int.not_le, Bool.and_eq_true, Bool.or_eq_true, Bool.or_eq_false_iff, Bool.and_eq_false_imp, strOf_toList, Decidable.not_not] at h8)
   ·skip
    rw [if_pos h8] at hsg
    refine AW.region ?_
    refine AO.op (O.move rfl rfl) rfl rfl rfl ?_
    (refine AO.op (O.loadK rfl rfl (by repeat (exact List.Mem.head _)) (by (dsimp only [List.set, List.cons_append, List.nil_append, List.take, List.drop]; done)) (by rfl)) rfl rfl rfl ?_)
    refine AO.opB (O.buildSlice rfl rfl rfl (by rfl) (by rfl) (by rfl) (by rfl)) rfl rfl rfl ?_
    intro B6
    refine AO.g ?_
    (refine G.freezeSl 0 36 rfl rfl ⟨Nat.le_refl _, by unfold maxLen; omega⟩ ?_)
    refine G.unfull 36 rfl ?_
    refine AO.u ?_
    dsimp only [List.eraseIdx]
    (refine AO.append' (i := 2) rfl rfl rfl rfl (by rfl) (by rfl) rfl rfl rfl (by exact SrcA.ro TyD.ax (by rfl) (Nat.le_of_ble_eq_true rfl)) (by rfl) (by (unfold maxLen; omega)) (by omega) (by (dsimp only [List.set, List.cons_append, List.nil_append, List.take, List.drop]; done)) (fun _ => by (dsimp only [List.set]; done)) ?_)
    intro V7 hV7
    refine AO.op (O.assign rfl rfl) rfl rfl rfl ?_
    refine AO.nil ?_
    refine AQ.blockN ?_
    refine AQ.blockN ?_
    refine AQ.thenN ?_
    refine AW.region ?_
    refine AO.op (O.add rfl rfl rfl (by exact wI64 (by omega))) rfl rfl rfl ?_
    refine AO.op (O.move rfl rfl) rfl rfl rfl ?_
    refine AO.nil ?_
    refine AQ.loopKN _ _ _ (by omega) (⟨k + 1, V, _, by omega, hV, ‹_›, rfl, rfl, by rw [hsc, hsg, optsA_snoc, List.length_append]⟩) (by repeat (first | exact envNil | refine envCons rfl ?_)) (by repeat (first | exact envNil | refine envCons rfl ?_)) (by repeat (first | exact subPnil | refine subPcons 1 rfl ?_))
   ·skip
    rw [if_neg (by omega)] at hsg
    refine AW.skip ?_
    refine AQ.blockN ?_
    refine AQ.blockN ?_
    refine AQ.thenN ?_
    refine AW.region ?_
    refine AO.op (O.add rfl rfl rfl (by exact wI64 (by omega))) rfl rfl rfl ?_
    refine AO.op (O.move rfl rfl) rfl rfl rfl ?_
    refine AO.nil ?_
    refine AQ.loopKN _ _ _ (by omega) (⟨k + 1, V, V', by omega, hV, hV', rfl, rfl, by rw [hsc, hsg]⟩) (by repeat (first | exact envNil | refine envCons rfl ?_)) (by repeat (first | exact envNil | refine envCons rfl ?_)) (by repeat (first | exact subPnil | refine subPcons 1 rfl ?_))
 ·skip
  obtain rfl : k = m.opts.length := by omega
  rw [List.take_length] at hl1 hl2 ⊢
  refine AW.exit ?_
  refine AQ.thenX ?_
  refine AQ.loopX ?_
  refine AQ.blockX rfl ?_
  refine AQ.thenN ?_
  refine AW.seq ?_
  refine AW.seq ?_
  refine AW.region ?_
  refine AO.op (O.move rfl rfl) rfl rfl rfl ?_
  refine AO.op (O.lenR rfl rfl) rfl rfl rfl ?_
  refine AO.op (O.move rfl rfl) rfl rfl rfl ?_
  refine AO.nil ?_
  refine AQ.thenN ?_
  refine AW.block ?_
  refine AW.loopK [(1, _), (3, _), (6, _), (8, _), (39, _), (40, _)] (fun nn E H => ∃ (j : Nat) (V : Value), (j ≤ vs.length) ∧ (V.oneCell' = true) ∧ nn = vs.length - j ∧ E = [(7, .val V), (41, .val (.int .i64 (j : Int)))] ∧ H = [.row V 74 2 (ltO m.opts n ++ eqO n (vs.take j)).length (optsA (ltO m.opts n ++ eqO n (vs.take j))), .row V' 74 2 (gtO m.opts n).length (optsA (gtO m.opts n)), .blk B2 41 6 [.val (.int .i64 0), .val (.int .i64 0), .val (.int .i64 0), .val (.slice none 0 0), .val (.slice none 0 0), .val (.slice none 0 0)], .blk B1 41 6 [.val (.int .i64 m.ty), .val (.int .i64 m.code), .val (.int .i64 m.id), roB m.tok, roO m.opts, roB m.pay]]) _ (⟨0, _, by omega, hV, rfl, rfl, by rw [show ltO m.opts n ++ eqO n (vs.take 0) = ltO m.opts n by simp [eqO]]⟩) (by repeat (first | exact envNil | refine envCons rfl ?_)) (by repeat (first | exact envNil | refine envCons rfl ?_)) (by repeat (first | exact subPnil | refine subPcons 0 rfl ?_)) ?_
  rintro nn E H ⟨j, V, h8, hV, rfl, rfl, rfl⟩
  dsimp only [List.cons_append, List.nil_append]
  have hl3 : (ltO m.opts n ++ eqO n (vs.take j)).length = (ltO m.opts n).length + j := by rw [List.length_append, eqO_len, List.length_take]; omega
  refine AW.seq ?_
  refine AW.region ?_
  refine AO.op (O.lss rfl rfl rfl (by rfl)) rfl rfl rfl ?_
  refine AO.nil ?_
  refine AQ.thenN ?_
  refine AW.seq ?_
  refine AW.split rfl (fun h9 => ?_) (fun h9 => ?_) <;> (try simp only [decide_eq_true_eq, decide_eq_false_iff_not, beq_iff_eq, beq_eq_false_iff_ne, bne_iff_ne, bne_eq_false_iff_eq, Bool.not_eq_true', Bool.not_eq_false', Bool.not_eq_true, Bool.not_eq_false, ne_eq, Int.not_lt, Int.not_le, Bool.and_eq_true, Bool.or_eq_true, Bool.or_eq_false_iff, Bool.and_eq_false_imp, strOf_toList, Decidable.not_not] at h9)
  ·skip
   have hj : j < vs.length := by omega
   have hsc : ltO m.opts n ++ eqO n (vs.take (j + 1)) = (ltO m.opts n ++ eqO n (vs.take j)) ++ [⟨n, vat vs j⟩] := by
    rw [take_snoc [] hj]; simp [eqO]
   refine AW.skip ?_
   refine AQ.thenN ?_
   refine AW.seq ?_
   refine AW.block ?_
   refine AW.seq ?_
   refine AW.region ?_
   refine AO.op (O.idxR rfl rfl rfl ⟨(by omega), (by omega)⟩) rfl rfl rfl ?_
   refine AO.op (O.loadR rfl rfl (by exact bsA_at (by omega) (by omega))) rfl rfl rfl ?_
   refine AO.op (O.assign rfl rfl) rfl rfl rfl ?_
   refine AO.nil ?_
   refine AQ.thenN ?_
   refine AW.region ?_
   refine AO.op (O.move rfl rfl) rfl rfl rfl ?_
   refine AO.op (O.move rfl rfl) rfl rfl rfl ?_
   refine AO.op (O.move rfl rfl) rfl rfl rfl ?_
   refine AO.op (O.build rfl rfl rfl (by rfl)) rfl rfl rfl ?_
   refine AO.opB (O.buildSlice rfl rfl rfl (by rfl) (by rfl) (by rfl) (by rfl)) rfl rfl rfl ?_
   intro B8
   refine AO.g ?_
   (refine G.freezeSl 0 49 rfl rfl ⟨Nat.le_refl _, by unfold maxLen; omega⟩ ?_)
   refine G.unfull 49 rfl ?_
   refine AO.u ?_
   dsimp only [List.eraseIdx]
   (refine AO.append' (i := 0) rfl rfl rfl rfl (by rfl) (by rfl) rfl rfl rfl (by exact SrcA.ro TyD.ax (by rfl) (Nat.le_of_ble_eq_true rfl)) (by rfl) (by (unfold maxLen; omega)) (by omega) (by (dsimp only [List.set, List.cons_append, List.nil_append, List.take, List.drop]; done)) (fun _ => by (dsimp only [List.set]; done)) ?_)
   intro V9 hV9
   refine AO.op (O.assign rfl rfl) rfl rfl rfl ?_
   refine AO.nil ?_
   refine AQ.blockN ?_
   refine AQ.thenN ?_
   refine AW.region ?_
   refine AO.op (O.add rfl rfl rfl (by exact wI64 (by omega))) rfl rfl rfl ?_
   refine AO.op (O.move rfl rfl) rfl rfl rfl ?_
   refine AO.nil ?_
   refine AQ.loopKN _ _ _ (by omega) (⟨j + 1, _, by omega, ‹_›, rfl, rfl, by rw [hsc, optsA_snoc, List.length_append]⟩) (by repeat (first | exact envNil | refine envCons rfl ?_)) (by repeat (first | exact envNil | refine envCons rfl ?_)) (by repeat (first | exact subPnil | refine subPcons 0 rfl ?_))
  ·skip
   obtain rfl : j = vs.length := by omega
   rw [List.take_length] at hl3 ⊢
   have hlen : (ltO m.opts n ++ eqO n vs).length + (gtO m.opts n).length = (setO m.opts n vs).length := by rw [setO, List.length_append (bs := gtO m.opts n)]
   have hcell : optsA (ltO m.opts n ++ eqO n vs) ++ optsA (gtO m.opts n) = optsA (setO m.opts n vs) := by rw [setO, optsA_app (ltO m.opts n ++ eqO n vs)]
   have hone := optsA_one (gtO m.opts n)
   refine AW.exit ?_
   refine AQ.thenX ?_
   refine AQ.loopX ?_
   refine AQ.blockX rfl ?_
   refine AQ.thenN ?_
   refine AW.seq ?_
   refine AW.regionS [[(0, false), (1, false), (2, false), (3, true)], [(4, false)], [(5, true)]] (by kernel_rfl) (by kernel_rfl) ?_
   refine AMS.go (by exact (splitAt' 0 rfl (splitAt' 0 rfl splitNil))) ?_
   try dsimp only [List.eraseIdx]
   (refine AM.op rfl (O.loadK rfl rfl (by repeat (first | exact List.Mem.head _ | refine List.Mem.tail _ ?_)) (by (dsimp only [List.set, List.cons_append, List.nil_append, List.take, List.drop]; done)) (by rfl)) rfl rfl rfl ?_)
   refine AM.op rfl (O.move rfl rfl) rfl rfl rfl ?_
   refine AM.op rfl (O.move rfl rfl) rfl rfl rfl ?_
   refine AM.main _ rfl (fun w0 R0 => ?_)
   (refine AO.append' (i := 0) rfl rfl rfl rfl (by rfl) (by rfl) rfl rfl rfl (by exact SrcA.row TyD.ax (by repeat (first | exact List.Mem.head _ | refine List.Mem.tail _ ?_)) (by (simp; done))) (by assumption) (by (unfold maxLen; omega)) (by omega) (by (dsimp only [List.set, List.cons_append, List.nil_append, List.take, List.drop]; done)) (fun _ => by (dsimp only [List.set]; done)) ?_)
   intro V10 hV10
   refine AO.g ?_
   refine G.freezeRow 0 rfl [55] (by repeat (first | exact frNil | refine frCons rfl ?_)) ?_
   refine AO.u ?_
   dsimp only [List.map, List.eraseIdx, List.cons_append, List.nil_append]
   refine AM.ok ?_
   dsimp only [putE]
   refine AM.nil ?_
   try dsimp only [List.cons_append, List.nil_append]
   refine AMS.go (by exact splitNil) ?_
   try dsimp only [List.eraseIdx]
   refine AM.op rfl (O.call rfl Tryz.func48 rfl rfl rfl (owned_of (m := m) (os := setO m.opts n vs) hlen hcell h1 h2 (by omega) hat2)) rfl rfl rfl ?_
   refine AM.nil ?_
   try dsimp only [List.cons_append, List.nil_append]
   refine AMS.go (by exact (by exact splitBlk 6 1 rfl rfl splitNil)) ?_
   try dsimp only [List.eraseIdx]
   refine AM.main _ rfl (fun w0 R0 => ?_)
   (refine AO.store (i := 0) rfl rfl rfl rfl rfl rfl (by rfl) (by rfl) (by rfl) (by (dsimp only [List.set, List.cons_append, List.nil_append, List.take, List.drop]; done)) (by (dsimp only [List.set, List.cons_append, List.nil_append, List.take, List.drop]; done)) ?_)
   refine AM.okN ?_
   dsimp only [putE]
   refine AM.nil ?_
   try dsimp only [List.cons_append, List.nil_append]
   refine AMS.nil ?_
   refine AQ.thenN ?_
   refine AW.ret ?_
   refine AQ.retCell rfl rfl (by repeat (exact List.Mem.head _)) (by (dsimp only [List.set, List.cons_append, List.nil_append, List.take, List.drop]; rfl)) rfl ⟨_, List.nil_sublist _, .nil⟩ (⟨rfl, rfl⟩)
end Go.Proofs.YtoonnnifelnaiaaGreatDoor.By

namespace Go.Proofs.YtoonnnifelnaiaaGreatDoor.By
open Go.RowKit L A
set_option linter.unusedVariables false
set_option maxRecDepth 20000
set_option linter.unusedSimpArgs false
attribute [local irreducible] AW AQ AO
end Go.Proofs.YtoonnnifelnaiaaGreatDoor.By
