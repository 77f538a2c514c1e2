/-
  TopOnce, the statement: for every input the law returns true, and its arguments read as before. No condition.
-/
import Derived.Test.YtoonnnifelnaiaaGreatDoorRows
import Derived.Lay
import Derived.LaidOnce
import Derived.MakeChecks
import Derived.Test.YtoonnnifelnaiaaGreatDoorZ4
namespace Go.Proofs.YtoonnnifelnaiaaGreatDoor.By
open Go.RowKit L A Dk
set_option linter.unusedVariables false
set_option maxRecDepth 20000
set_option linter.unusedSimpArgs false
attribute [local irreducible] AW AQ AO
inductive It where
  | mk (k n : Int) (b : List UInt8) (l : List It)
abbrev hnI (k n : Int) (b : List UInt8) (m : Nat) : Int := if k = 2 then (b.length : Int) else if k = 4 then (m : Int) else n
mutual
def It.cells : It → List AV
  | .mk k n b l => [.val (.int .i64 k), .val (.int .u64 n), roB b, .ro false l.length (itsA l)]
def itsA : List It → List AV
  | [] => []
  | x :: l => x.cells ++ itsA l
end
mutual
def It.nodes : It → Nat
  | .mk _ _ _ l => 1 + nodesL l
def nodesL : List It → Nat
  | [] => 0
  | x :: l => x.nodes + nodesL l
end
mutual
def It.enc : It → List UInt8
  | .mk k n b l => u8 (32 * k + hnI k n b l.length) :: (b ++ encL l)
def encL : List It → List UInt8
  | [] => []
  | x :: l => x.enc ++ encL l
end
def leafI : It → Prop
  | .mk k n b l => l = [] ∧ ((k = 0 ∨ k = 1) ∧ 0 ≤ n ∧ n < 24 ∧ b = [] ∨ k = 2 ∧ n = 0 ∧ b.length < 24)
def It.ok : Nat → It → Prop
  | 0, x => leafI x
  | d + 1, x => leafI x ∨ match x with | .mk k n b l => k = 4 ∧ n = 0 ∧ b = [] ∧ l.length < 24 ∧ ∀ y ∈ l, It.ok d y
theorem itsA_eq (l : List It) : itsA l = l.flatMap It.cells := by
  induction l with
  | nil => rw [itsA]; rfl
  | cons x l ih => rw [itsA, ih, List.flatMap_cons]
theorem cells_len (x : It) : x.cells.length = 4 := by cases x; rw [It.cells]; rfl
theorem encL_snoc (l : List It) (x : It) : encL (l ++ [x]) = encL l ++ x.enc := by
  induction l with
  | nil => simp [encL]
  | cons y l ih => simp [encL, ih]
theorem nodesL_snoc (l : List It) (x : It) : nodesL (l ++ [x]) = nodesL l + x.nodes := by
  induction l with
  | nil => simp [nodesL]
  | cons y l ih => simp [nodesL, ih]; omega
theorem encL_app (l m : List It) : encL (l ++ m) = encL l ++ encL m := by
  induction l with
  | nil => simp [encL]
  | cons y l ih => simp [encL, ih]
theorem nodesL_app (l m : List It) : nodesL (l ++ m) = nodesL l + nodesL m := by
  induction l with
  | nil => simp [nodesL]
  | cons y l ih => simp [nodesL, ih]; omega
def itN : It := .mk 0 0 [] []
abbrev itat (l : List It) (k : Nat) : It := l.getD k itN
theorem getIt {l : List It} {k : Nat} (h : k < l.length) {j : Nat} (hj : j = k) : ((itsA l).drop (j * 4)).take 4 = (itat l k).cells := by
  rw [itsA_eq]; exact flat_at cells_len itN h hj
theorem head_fn (k n : Int) (hk : 0 ≤ k ∧ k ≤ 7) (hn : 0 ≤ n ∧ n < 24) : Sp Tryz.prog 113 [.val (.int .u8 k), .val (.int .u64 n)] [] (Is (roB [u8 (32 * k + n)])) := by
  have e : k * 32 + n = ((u8 (32 * k + n)).toNat : Int) := by rw [u8_small (by omega)]; omega
  refine Sp.enter Tryz.func113 rfl _ Tryz.ntmps113 rfl (fun w0 R0 => ?_)
  refine AW.seq ?_
  refine AW.region ?_
  refine AO.op (O.assign rfl rfl) rfl rfl rfl ?_
  refine AO.nil ?_
  refine AQ.thenN ?_
  refine AW.seq ?_
  refine AW.region ?_
  refine AO.op (O.move rfl rfl) rfl rfl rfl ?_
  refine AO.op (O.shlK 5 32 rfl rfl rfl rfl (by rfl) (by exact wU8 (by omega))) rfl rfl rfl ?_
  refine AO.op (O.assign rfl rfl) rfl rfl rfl ?_
  refine AO.nil ?_
  refine AQ.thenN ?_
  refine AW.seq ?_
  refine AW.block ?_
  refine AW.seq ?_
  refine AW.region ?_
  refine AO.op (O.move rfl rfl) rfl rfl rfl ?_
  refine AO.op (O.lss rfl rfl rfl (by exact bTrue (by omega))) rfl rfl rfl ?_
  refine AO.op (O.assign rfl rfl) rfl rfl rfl ?_
  refine AO.nil ?_
  refine AQ.thenN ?_
  refine AW.condT rfl ?_
  refine AW.seq ?_
  refine AW.region ?_
  refine AO.op (O.move rfl rfl) rfl rfl rfl ?_
  refine AO.op (O.move rfl rfl) rfl rfl rfl ?_
  refine AO.op (O.conv rfl rfl (by exact wU8 (by omega))) rfl rfl rfl ?_
  refine AO.op (O.or_ rfl rfl rfl (orU8 5 (m := 32) (by decide) (by omega) (by omega))) rfl rfl rfl ?_
  refine AO.opB (O.buildSlice rfl rfl rfl (by rfl) (by rfl) (by rfl) (by rfl)) rfl rfl rfl ?_
  intro B1
  refine AO.op (O.assign rfl rfl) rfl rfl rfl ?_
  refine AO.nil ?_
  refine AQ.thenN ?_
  refine AW.ret ?_
  refine AQ.blockR ?_
  refine AQ.thenR ?_
  refine AQ.g ?_
  (refine G.freezeSl 0 4 rfl rfl ⟨Nat.le_refl _, by unfold maxLen; omega⟩ ?_; refine G.unfull 4 rfl ?_)
  refine AQ.u ?_
  try dsimp only [List.map, List.eraseIdx, List.cons_append, List.nil_append]
  refine AQ.ret1 rfl rfl ⟨_, List.nil_sublist _, .nil⟩ (⟨by show AV.ro false 1 [.val (.int .u8 (k * 32 + n))] = _; rw [e]; rfl, rfl⟩)
theorem majorL_fn {k n : Int} {b : List UInt8} (hk : k = 0 ∨ k = 1) (hn : 0 ≤ n ∧ n < 24) : Sp Tryz.prog 114 [.agg [.val (.int .i64 k), .val (.int .u64 n), roB b, .ro false 0 []]] [] (Is (.tup [.val (.int .u8 k), .val (.int .u64 n)])) := by
  refine Sp.enter Tryz.func114 rfl _ Tryz.ntmps114 rfl (fun w0 R0 => ?_)
  refine AW.seq ?_
  refine AW.region ?_
  refine AO.opB (O.box rfl rfl rfl rfl rfl) rfl rfl rfl ?_
  intro B1
  refine AO.op (O.assign rfl rfl) rfl rfl rfl ?_
  refine AO.op (O.assign rfl rfl) rfl rfl rfl ?_
  refine AO.nil ?_
  refine AQ.thenN ?_
  refine AW.seq ?_
  refine AW.seq ?_
  refine AW.region ?_
  refine AO.op (O.fieldAddr rfl rfl) rfl rfl rfl ?_
  refine AO.op (O.load rfl rfl (by repeat (exact List.Mem.head _)) (by rfl)) rfl rfl rfl ?_
  refine AO.nil ?_
  refine AQ.thenN ?_
  refine AW.block ?_
  refine AW.seq ?_
  refine AW.seq ?_
  refine AW.region ?_
  refine AO.op (O.eql rfl rfl rfl (by exact beq_eq_false_iff_ne.2 (by omega))) rfl rfl rfl ?_
  refine AO.op (O.assign rfl rfl) rfl rfl rfl ?_
  refine AO.nil ?_
  refine AQ.thenN ?_
  refine AW.condF rfl ?_
  refine AW.region ?_
  refine AO.op (O.eql rfl rfl rfl (by exact beq_eq_false_iff_ne.2 (by omega))) rfl rfl rfl ?_
  refine AO.op (O.assign rfl rfl) rfl rfl rfl ?_
  refine AO.nil ?_
  refine AQ.thenN ?_
  refine AW.condF rfl ?_
  refine AW.seq ?_
  refine AW.region ?_
  refine AO.op (O.eql rfl rfl rfl (by exact beq_eq_false_iff_ne.2 (by omega))) rfl rfl rfl ?_
  refine AO.op (O.assign rfl rfl) rfl rfl rfl ?_
  refine AO.nil ?_
  refine AQ.thenN ?_
  refine AW.condF rfl ?_
  refine AW.seq ?_
  refine AW.region ?_
  refine AO.op (O.eql rfl rfl rfl (by exact beq_eq_false_iff_ne.2 (by omega))) rfl rfl rfl ?_
  refine AO.op (O.assign rfl rfl) rfl rfl rfl ?_
  refine AO.nil ?_
  refine AQ.thenN ?_
  refine AW.condF rfl ?_
  refine AW.skip ?_
  refine AQ.blockN ?_
  refine AQ.thenN ?_
  refine AW.seq ?_
  refine AW.regionD 7 (by kernel_rfl) (by kernel_rfl) ?_
  simp only [List.take_succ_cons, List.take_zero, List.drop_succ_cons, List.drop_zero]
  refine FA.op (O.fieldAddr rfl rfl) rfl rfl rfl rfl ?_
  refine FA.op (O.load rfl rfl (by repeat (exact List.Mem.head _)) (by rfl)) rfl rfl rfl rfl ?_
  refine FA.op (O.conv rfl rfl (by exact wU8 (by omega))) rfl rfl rfl rfl ?_
  refine FA.op (O.fieldAddr rfl rfl) rfl rfl rfl rfl ?_
  refine FA.op (O.load rfl rfl (by repeat (exact List.Mem.head _)) (by rfl)) rfl rfl rfl rfl ?_
  refine FA.op (O.assign rfl rfl) rfl rfl rfl rfl ?_
  refine FA.op (O.assign rfl rfl) rfl rfl rfl rfl ?_
  refine FA.nil ?_
  simp only [chosen, List.nil_append, List.cons_append, List.append_nil]
  refine AO.nil ?_
  refine AQ.thenN ?_
  refine AW.ret ?_
  refine AQ.ret2 rfl rfl rfl ⟨_, List.nil_sublist _, .nil⟩ (⟨rfl, rfl⟩)
theorem majorB_fn {b : List UInt8} (hb : b.length < 24) : Sp Tryz.prog 114 [.agg [.val (.int .i64 2), .val (.int .u64 0), roB b, .ro false 0 []]] [] (Is (.tup [.val (.int .u8 2), .val (.int .u64 (b.length : Int))])) := by
  refine Sp.enter Tryz.func114 rfl _ Tryz.ntmps114 rfl (fun w0 R0 => ?_)
  refine AW.seq ?_
  refine AW.region ?_
  refine AO.opB (O.box rfl rfl rfl rfl rfl) rfl rfl rfl ?_
  intro B1
  refine AO.op (O.assign rfl rfl) rfl rfl rfl ?_
  refine AO.op (O.assign rfl rfl) rfl rfl rfl ?_
  refine AO.nil ?_
  refine AQ.thenN ?_
  refine AW.seq ?_
  refine AW.seq ?_
  refine AW.region ?_
  refine AO.op (O.fieldAddr rfl rfl) rfl rfl rfl ?_
  refine AO.op (O.load rfl rfl (by repeat (exact List.Mem.head _)) (by rfl)) rfl rfl rfl ?_
  refine AO.nil ?_
  refine AQ.thenN ?_
  refine AW.block ?_
  refine AW.seq ?_
  refine AW.seq ?_
  refine AW.region ?_
  refine AO.op (O.eql rfl rfl rfl (by exact beq_iff_eq.2 (by omega))) rfl rfl rfl ?_
  refine AO.op (O.assign rfl rfl) rfl rfl rfl ?_
  refine AO.nil ?_
  refine AQ.thenN ?_
  refine AW.condT rfl ?_
  refine AW.skip ?_
  refine AQ.thenN ?_
  refine AW.condT rfl ?_
  refine AW.seq ?_
  refine AW.regionD 9 (by kernel_rfl) (by kernel_rfl) ?_
  simp only [List.take_succ_cons, List.take_zero, List.drop_succ_cons, List.drop_zero]
  refine FA.op (O.fieldAddr rfl rfl) rfl rfl rfl rfl ?_
  refine FA.op (O.load rfl rfl (by repeat (exact List.Mem.head _)) (by rfl)) rfl rfl rfl rfl ?_
  refine FA.op (O.conv rfl rfl (by exact wU8 (by omega))) rfl rfl rfl rfl ?_
  refine FA.op (O.fieldAddr rfl rfl) rfl rfl rfl rfl ?_
  refine FA.op (O.load rfl rfl (by repeat (exact List.Mem.head _)) (by rfl)) rfl rfl rfl rfl ?_
  refine FA.op (O.lenR rfl rfl) rfl rfl rfl rfl ?_
  refine FA.op (O.conv rfl rfl (by exact wU64 (by omega))) rfl rfl rfl rfl ?_
  refine FA.op (O.assign rfl rfl) rfl rfl rfl rfl ?_
  refine FA.op (O.assign rfl rfl) rfl rfl rfl rfl ?_
  refine FA.nil ?_
  simp only [chosen, List.nil_append, List.cons_append, List.append_nil]
  refine AO.nil ?_
  refine AQ.thenN ?_
  refine AW.ret ?_
  refine AQ.blockR ?_
  refine AQ.thenR ?_
  refine AQ.ret2 rfl rfl rfl ⟨_, List.nil_sublist _, .nil⟩ (⟨rfl, rfl⟩)
theorem majorA_fn {m : Nat} {xs : List AV} (hm : m < 24) : Sp Tryz.prog 114 [.agg [.val (.int .i64 4), .val (.int .u64 0), roB [], .ro false m xs]] [] (Is (.tup [.val (.int .u8 4), .val (.int .u64 (m : Int))])) := by
  refine Sp.enter Tryz.func114 rfl _ Tryz.ntmps114 rfl (fun w0 R0 => ?_)
  refine AW.seq ?_
  refine AW.region ?_
  refine AO.opB (O.box rfl rfl rfl rfl rfl) rfl rfl rfl ?_
  intro B1
  refine AO.op (O.assign rfl rfl) rfl rfl rfl ?_
  refine AO.op (O.assign rfl rfl) rfl rfl rfl ?_
  refine AO.nil ?_
  refine AQ.thenN ?_
  refine AW.seq ?_
  refine AW.seq ?_
  refine AW.region ?_
  refine AO.op (O.fieldAddr rfl rfl) rfl rfl rfl ?_
  refine AO.op (O.load rfl rfl (by repeat (exact List.Mem.head _)) (by rfl)) rfl rfl rfl ?_
  refine AO.nil ?_
  refine AQ.thenN ?_
  refine AW.block ?_
  refine AW.seq ?_
  refine AW.seq ?_
  refine AW.region ?_
  refine AO.op (O.eql rfl rfl rfl (by exact beq_eq_false_iff_ne.2 (by omega))) rfl rfl rfl ?_
  refine AO.op (O.assign rfl rfl) rfl rfl rfl ?_
  refine AO.nil ?_
  refine AQ.thenN ?_
  refine AW.condF rfl ?_
  refine AW.region ?_
  refine AO.op (O.eql rfl rfl rfl (by exact beq_eq_false_iff_ne.2 (by omega))) rfl rfl rfl ?_
  refine AO.op (O.assign rfl rfl) rfl rfl rfl ?_
  refine AO.nil ?_
  refine AQ.thenN ?_
  refine AW.condF rfl ?_
  refine AW.seq ?_
  refine AW.region ?_
  refine AO.op (O.eql rfl rfl rfl (by exact beq_iff_eq.2 (by omega))) rfl rfl rfl ?_
  refine AO.op (O.assign rfl rfl) rfl rfl rfl ?_
  refine AO.nil ?_
  refine AQ.thenN ?_
  refine AW.condT rfl ?_
  refine AW.seq ?_
  refine AW.regionD 6 (by kernel_rfl) (by kernel_rfl) ?_
  simp only [List.take_succ_cons, List.take_zero, List.drop_succ_cons, List.drop_zero]
  refine FA.op (O.fieldAddr rfl rfl) rfl rfl rfl rfl ?_
  refine FA.op (O.load rfl rfl (by repeat (exact List.Mem.head _)) (by rfl)) rfl rfl rfl rfl ?_
  refine FA.op (O.lenR rfl rfl) rfl rfl rfl rfl ?_
  refine FA.op (O.conv rfl rfl (by exact wU64 (by omega))) rfl rfl rfl rfl ?_
  refine FA.op (O.assign rfl rfl) rfl rfl rfl rfl ?_
  refine FA.op (O.assign rfl rfl) rfl rfl rfl rfl ?_
  refine FA.nil ?_
  simp only [chosen, List.nil_append, List.cons_append, List.append_nil]
  refine AO.nil ?_
  refine AQ.thenN ?_
  refine AW.ret ?_
  refine AQ.blockR ?_
  refine AQ.thenR ?_
  refine AQ.ret2 rfl rfl rfl ⟨_, List.nil_sublist _, .nil⟩ (⟨rfl, rfl⟩)
theorem plainL_fn {k n : Int} (hk : k = 0 ∨ k = 1) : Sp Tryz.prog 116 [.agg [.val (.int .i64 k), .val (.int .u64 n), roB [], .ro false 0 []]] [] (Is (.tup [.val (.bool true), .val (.bool true)])) := by
  rcases hk with rfl | rfl
  · refine Sp.enter Tryz.func116 rfl _ Tryz.ntmps116 rfl (fun w0 R0 => ?_)
    refine AW.seq ?_
    refine AW.region ?_
    refine AO.opB (O.box rfl rfl rfl rfl rfl) rfl rfl rfl ?_
    intro B1
    refine AO.op (O.assign rfl rfl) rfl rfl rfl ?_
    refine AO.op (O.assign rfl rfl) rfl rfl rfl ?_
    refine AO.nil ?_
    refine AQ.thenN ?_
    refine AW.seq ?_
    refine AW.seq ?_
    refine AW.region ?_
    refine AO.op (O.fieldAddr rfl rfl) rfl rfl rfl ?_
    refine AO.op (O.load rfl rfl (by repeat (exact List.Mem.head _)) (by rfl)) rfl rfl rfl ?_
    refine AO.nil ?_
    refine AQ.thenN ?_
    refine AW.block ?_
    refine AW.seq ?_
    refine AW.seq ?_
    refine AW.region ?_
    refine AO.op (O.eql rfl rfl rfl (by exact beq_iff_eq.2 (by omega))) rfl rfl rfl ?_
    refine AO.op (O.assign rfl rfl) rfl rfl rfl ?_
    refine AO.nil ?_
    refine AQ.thenN ?_
    refine AW.condT rfl ?_
    refine AW.skip ?_
    refine AQ.thenN ?_
    refine AW.condT rfl ?_
    refine AW.seq ?_
    refine AW.region ?_
    refine AO.op (O.fieldAddr rfl rfl) rfl rfl rfl ?_
    refine AO.op (O.load rfl rfl (by repeat (exact List.Mem.head _)) (by rfl)) rfl rfl rfl ?_
    refine AO.op (O.lenR rfl rfl) rfl rfl rfl ?_
    refine AO.op (O.eql rfl rfl rfl (by rfl)) rfl rfl rfl ?_
    refine AO.op (O.move rfl rfl) rfl rfl rfl ?_
    refine AO.op (O.fieldAddr rfl rfl) rfl rfl rfl ?_
    refine AO.op (O.load rfl rfl (by repeat (exact List.Mem.head _)) (by rfl)) rfl rfl rfl ?_
    refine AO.op (O.lenR rfl rfl) rfl rfl rfl ?_
    refine AO.op (O.eql rfl rfl rfl (by exact beq_iff_eq.2 (by omega))) rfl rfl rfl ?_
    refine AO.op (O.pickT rfl rfl rfl) rfl rfl rfl ?_
    refine AO.op (O.assign rfl rfl) rfl rfl rfl ?_
    refine AO.op (O.assign rfl rfl) rfl rfl rfl ?_
    refine AO.nil ?_
    refine AQ.thenN ?_
    refine AW.ret ?_
    refine AQ.blockR ?_
    refine AQ.thenR ?_
    refine AQ.ret2 rfl rfl rfl ⟨_, List.nil_sublist _, .nil⟩ (⟨rfl, rfl⟩)
  · refine Sp.enter Tryz.func116 rfl _ Tryz.ntmps116 rfl (fun w0 R0 => ?_)
    refine AW.seq ?_
    refine AW.region ?_
    refine AO.opB (O.box rfl rfl rfl rfl rfl) rfl rfl rfl ?_
    intro B1
    refine AO.op (O.assign rfl rfl) rfl rfl rfl ?_
    refine AO.op (O.assign rfl rfl) rfl rfl rfl ?_
    refine AO.nil ?_
    refine AQ.thenN ?_
    refine AW.seq ?_
    refine AW.seq ?_
    refine AW.region ?_
    refine AO.op (O.fieldAddr rfl rfl) rfl rfl rfl ?_
    refine AO.op (O.load rfl rfl (by repeat (exact List.Mem.head _)) (by rfl)) rfl rfl rfl ?_
    refine AO.nil ?_
    refine AQ.thenN ?_
    refine AW.block ?_
    refine AW.seq ?_
    refine AW.seq ?_
    refine AW.region ?_
    refine AO.op (O.eql rfl rfl rfl (by exact beq_eq_false_iff_ne.2 (by omega))) rfl rfl rfl ?_
    refine AO.op (O.assign rfl rfl) rfl rfl rfl ?_
    refine AO.nil ?_
    refine AQ.thenN ?_
    refine AW.condF rfl ?_
    refine AW.region ?_
    refine AO.op (O.eql rfl rfl rfl (by exact beq_iff_eq.2 (by omega))) rfl rfl rfl ?_
    refine AO.op (O.assign rfl rfl) rfl rfl rfl ?_
    refine AO.nil ?_
    refine AQ.thenN ?_
    refine AW.condT rfl ?_
    refine AW.seq ?_
    refine AW.region ?_
    refine AO.op (O.fieldAddr rfl rfl) rfl rfl rfl ?_
    refine AO.op (O.load rfl rfl (by repeat (exact List.Mem.head _)) (by rfl)) rfl rfl rfl ?_
    refine AO.op (O.lenR rfl rfl) rfl rfl rfl ?_
    refine AO.op (O.eql rfl rfl rfl (by rfl)) rfl rfl rfl ?_
    refine AO.op (O.move rfl rfl) rfl rfl rfl ?_
    refine AO.op (O.fieldAddr rfl rfl) rfl rfl rfl ?_
    refine AO.op (O.load rfl rfl (by repeat (exact List.Mem.head _)) (by rfl)) rfl rfl rfl ?_
    refine AO.op (O.lenR rfl rfl) rfl rfl rfl ?_
    refine AO.op (O.eql rfl rfl rfl (by exact beq_iff_eq.2 (by omega))) rfl rfl rfl ?_
    refine AO.op (O.pickT rfl rfl rfl) rfl rfl rfl ?_
    refine AO.op (O.assign rfl rfl) rfl rfl rfl ?_
    refine AO.op (O.assign rfl rfl) rfl rfl rfl ?_
    refine AO.nil ?_
    refine AQ.thenN ?_
    refine AW.ret ?_
    refine AQ.blockR ?_
    refine AQ.thenR ?_
    refine AQ.ret2 rfl rfl rfl ⟨_, List.nil_sublist _, .nil⟩ (⟨rfl, rfl⟩)
theorem plainB_fn {b : List UInt8} : Sp Tryz.prog 116 [.agg [.val (.int .i64 2), .val (.int .u64 0), roB b, .ro false 0 []]] [] (Is (.tup [.val (.bool true), .val (.bool true)])) := by
  refine Sp.enter Tryz.func116 rfl _ Tryz.ntmps116 rfl (fun w0 R0 => ?_)
  refine AW.seq ?_
  refine AW.region ?_
  refine AO.opB (O.box rfl rfl rfl rfl rfl) rfl rfl rfl ?_
  intro B1
  refine AO.op (O.assign rfl rfl) rfl rfl rfl ?_
  refine AO.op (O.assign rfl rfl) rfl rfl rfl ?_
  refine AO.nil ?_
  refine AQ.thenN ?_
  refine AW.seq ?_
  refine AW.seq ?_
  refine AW.region ?_
  refine AO.op (O.fieldAddr rfl rfl) rfl rfl rfl ?_
  refine AO.op (O.load rfl rfl (by repeat (exact List.Mem.head _)) (by rfl)) rfl rfl rfl ?_
  refine AO.nil ?_
  refine AQ.thenN ?_
  refine AW.block ?_
  refine AW.seq ?_
  refine AW.seq ?_
  refine AW.region ?_
  refine AO.op (O.eql rfl rfl rfl (by exact beq_eq_false_iff_ne.2 (by omega))) rfl rfl rfl ?_
  refine AO.op (O.assign rfl rfl) rfl rfl rfl ?_
  refine AO.nil ?_
  refine AQ.thenN ?_
  refine AW.condF rfl ?_
  refine AW.region ?_
  refine AO.op (O.eql rfl rfl rfl (by exact beq_eq_false_iff_ne.2 (by omega))) rfl rfl rfl ?_
  refine AO.op (O.assign rfl rfl) rfl rfl rfl ?_
  refine AO.nil ?_
  refine AQ.thenN ?_
  refine AW.condF rfl ?_
  refine AW.seq ?_
  refine AW.region ?_
  refine AO.op (O.eql rfl rfl rfl (by exact beq_iff_eq.2 (by omega))) rfl rfl rfl ?_
  refine AO.op (O.assign rfl rfl) rfl rfl rfl ?_
  refine AO.nil ?_
  refine AQ.thenN ?_
  refine AW.condT rfl ?_
  refine AW.seq ?_
  refine AW.region ?_
  refine AO.op (O.fieldAddr rfl rfl) rfl rfl rfl ?_
  refine AO.op (O.load rfl rfl (by repeat (exact List.Mem.head _)) (by rfl)) rfl rfl rfl ?_
  refine AO.op (O.eql rfl rfl rfl (by exact beq_iff_eq.2 (by omega))) rfl rfl rfl ?_
  refine AO.op (O.move rfl rfl) rfl rfl rfl ?_
  refine AO.op (O.fieldAddr rfl rfl) rfl rfl rfl ?_
  refine AO.op (O.load rfl rfl (by repeat (exact List.Mem.head _)) (by rfl)) rfl rfl rfl ?_
  refine AO.op (O.lenR rfl rfl) rfl rfl rfl ?_
  refine AO.op (O.eql rfl rfl rfl (by exact beq_iff_eq.2 (by omega))) rfl rfl rfl ?_
  refine AO.op (O.pickT rfl rfl rfl) rfl rfl rfl ?_
  refine AO.op (O.assign rfl rfl) rfl rfl rfl ?_
  refine AO.op (O.assign rfl rfl) rfl rfl rfl ?_
  refine AO.nil ?_
  refine AQ.thenN ?_
  refine AW.ret ?_
  refine AQ.blockR ?_
  refine AQ.thenR ?_
  refine AQ.ret2 rfl rfl rfl ⟨_, List.nil_sublist _, .nil⟩ (⟨rfl, rfl⟩)
theorem plainA_fn {m : Nat} {xs : List AV} : Sp Tryz.prog 116 [.agg [.val (.int .i64 4), .val (.int .u64 0), roB [], .ro false m xs]] [] (Is (.tup [.val (.bool false), .val (.bool false)])) := by
  refine Sp.enter Tryz.func116 rfl _ Tryz.ntmps116 rfl (fun w0 R0 => ?_)
  refine AW.seq ?_
  refine AW.region ?_
  refine AO.opB (O.box rfl rfl rfl rfl rfl) rfl rfl rfl ?_
  intro B1
  refine AO.op (O.assign rfl rfl) rfl rfl rfl ?_
  refine AO.op (O.assign rfl rfl) rfl rfl rfl ?_
  refine AO.nil ?_
  refine AQ.thenN ?_
  refine AW.seq ?_
  refine AW.seq ?_
  refine AW.region ?_
  refine AO.op (O.fieldAddr rfl rfl) rfl rfl rfl ?_
  refine AO.op (O.load rfl rfl (by repeat (exact List.Mem.head _)) (by rfl)) rfl rfl rfl ?_
  refine AO.nil ?_
  refine AQ.thenN ?_
  refine AW.block ?_
  refine AW.seq ?_
  refine AW.seq ?_
  refine AW.region ?_
  refine AO.op (O.eql rfl rfl rfl (by exact beq_eq_false_iff_ne.2 (by omega))) rfl rfl rfl ?_
  refine AO.op (O.assign rfl rfl) rfl rfl rfl ?_
  refine AO.nil ?_
  refine AQ.thenN ?_
  refine AW.condF rfl ?_
  refine AW.region ?_
  refine AO.op (O.eql rfl rfl rfl (by exact beq_eq_false_iff_ne.2 (by omega))) rfl rfl rfl ?_
  refine AO.op (O.assign rfl rfl) rfl rfl rfl ?_
  refine AO.nil ?_
  refine AQ.thenN ?_
  refine AW.condF rfl ?_
  refine AW.seq ?_
  refine AW.region ?_
  refine AO.op (O.eql rfl rfl rfl (by exact beq_eq_false_iff_ne.2 (by omega))) rfl rfl rfl ?_
  refine AO.op (O.assign rfl rfl) rfl rfl rfl ?_
  refine AO.nil ?_
  refine AQ.thenN ?_
  refine AW.condF rfl ?_
  refine AW.seq ?_
  refine AW.region ?_
  refine AO.op (O.eql rfl rfl rfl (by exact beq_eq_false_iff_ne.2 (by omega))) rfl rfl rfl ?_
  refine AO.op (O.assign rfl rfl) rfl rfl rfl ?_
  refine AO.nil ?_
  refine AQ.thenN ?_
  refine AW.condF rfl ?_
  refine AW.seq ?_
  refine AW.region ?_
  refine AO.op (O.eql rfl rfl rfl (by exact beq_eq_false_iff_ne.2 (by omega))) rfl rfl rfl ?_
  refine AO.op (O.assign rfl rfl) rfl rfl rfl ?_
  refine AO.nil ?_
  refine AQ.thenN ?_
  refine AW.condF rfl ?_
  refine AW.seq ?_
  refine AW.region ?_
  refine AO.op (O.eql rfl rfl rfl (by exact beq_eq_false_iff_ne.2 (by omega))) rfl rfl rfl ?_
  refine AO.op (O.assign rfl rfl) rfl rfl rfl ?_
  refine AO.nil ?_
  refine AQ.thenN ?_
  refine AW.condF rfl ?_
  refine AW.skip ?_
  refine AQ.blockN ?_
  refine AQ.thenN ?_
  refine AW.seq ?_
  refine AW.region ?_
  refine AO.op (O.assign rfl rfl) rfl rfl rfl ?_
  refine AO.op (O.assign rfl rfl) rfl rfl rfl ?_
  refine AO.nil ?_
  refine AQ.thenN ?_
  refine AW.ret ?_
  refine AQ.ret2 rfl rfl rfl ⟨_, List.nil_sublist _, .nil⟩ (⟨rfl, rfl⟩)
abbrev chkB (B : Nat) (it sz : Int) : HE := .blk B 162 2 [.val (.int .i64 it), .val (.int .i64 sz)]
theorem spendL_fn {B : Nat} {k n it sz : Int} (hk : k = 0 ∨ k = 1) (hn : 0 ≤ n ∧ n < 24) (hs : 0 ≤ sz ∧ sz < 4000) : Sp Tryz.prog 117 [ptr B, .agg [.val (.int .i64 k), .val (.int .u64 n), roB [], .ro false 0 []]] [chkB B it sz] (IsM (.val (.bool true)) (chkB B it (sz + 1))) := by
  have z1 : ([u8 (32 * k + n)] : List UInt8).length = 1 := rfl
  have z2 : ([] : List UInt8).length = 0 := rfl
  refine Sp.enter Tryz.func117 rfl _ Tryz.ntmps117 rfl (fun w0 R0 => ?_)
  refine AW.seq ?_
  refine AW.region ?_
  refine AO.opB (O.box rfl rfl rfl rfl rfl) rfl rfl rfl ?_
  intro B1
  refine AO.op (O.assign rfl rfl) rfl rfl rfl ?_
  refine AO.nil ?_
  refine AQ.thenN ?_
  refine AW.seq ?_
  refine AW.seq ?_
  refine AW.region ?_
  refine AO.op (O.fieldAddr rfl rfl) rfl rfl rfl ?_
  refine AO.op (O.load rfl rfl (by repeat (exact List.Mem.head _)) (by rfl)) rfl rfl rfl ?_
  refine AO.nil ?_
  refine AQ.thenN ?_
  refine AW.block ?_
  refine AW.seq ?_
  refine AW.region ?_
  refine AO.op (O.eql rfl rfl rfl (by exact beq_eq_false_iff_ne.2 (by omega))) rfl rfl rfl ?_
  refine AO.op (O.assign rfl rfl) rfl rfl rfl ?_
  refine AO.nil ?_
  refine AQ.thenN ?_
  refine AW.condF rfl ?_
  refine AW.seq ?_
  refine AW.region ?_
  refine AO.op (O.eql rfl rfl rfl (by exact beq_eq_false_iff_ne.2 (by omega))) rfl rfl rfl ?_
  refine AO.op (O.assign rfl rfl) rfl rfl rfl ?_
  refine AO.nil ?_
  refine AQ.thenN ?_
  refine AW.condF rfl ?_
  refine AW.regionD 17 (by kernel_rfl) (by kernel_rfl) ?_
  simp only [List.take_succ_cons, List.take_zero, List.drop_succ_cons, List.drop_zero]
  refine FA.op (O.move rfl rfl) rfl rfl rfl rfl ?_
  refine FA.op (O.nilCheck rfl rfl) rfl rfl rfl rfl ?_
  refine FA.op (O.fieldAddr rfl rfl) rfl rfl rfl rfl ?_
  refine FA.op (O.load rfl rfl (by repeat (first | exact List.Mem.head _ | refine List.Mem.tail _ ?_)) (by rfl)) rfl rfl rfl rfl ?_
  (refine FA.op (O.loadK rfl rfl (by repeat (exact List.Mem.head _)) (by (dsimp only [List.set, List.cons_append, List.nil_append, List.take, List.drop]; done)) (by rfl)) rfl rfl rfl rfl ?_)
  refine FA.op (O.call rfl Tryz.func114 rfl rfl rfl (majorL_fn hk hn)) rfl rfl rfl rfl ?_
  refine FA.op (O.extract rfl rfl rfl) rfl rfl rfl rfl ?_
  refine FA.op (O.extract rfl rfl rfl) rfl rfl rfl rfl ?_
  refine FA.op (O.call rfl Tryz.func113 rfl rfl rfl (head_fn k n ⟨by omega, by omega⟩ hn)) rfl rfl rfl rfl ?_
  refine FA.op (O.lenR rfl rfl) rfl rfl rfl rfl ?_
  refine FA.op (O.fieldAddr rfl rfl) rfl rfl rfl rfl ?_
  refine FA.op (O.load rfl rfl (by repeat (exact List.Mem.head _)) (by rfl)) rfl rfl rfl rfl ?_
  refine FA.op (O.lenR rfl rfl) rfl rfl rfl rfl ?_
  refine FA.op (O.add rfl rfl rfl (by exact wI64 (by omega))) rfl rfl rfl rfl ?_
  refine FA.op (O.add rfl rfl rfl (by exact wI64 (by omega))) rfl rfl rfl rfl ?_
  refine FA.op (O.nilCheck rfl rfl) rfl rfl rfl rfl ?_
  refine FA.op (O.fieldAddr rfl rfl) rfl rfl rfl rfl ?_
  refine FA.nil ?_
  simp only [chosen, List.nil_append, List.cons_append, List.append_nil]
  (refine AO.store (i := 1) rfl rfl rfl rfl rfl rfl (by rfl) (by rfl) (by rfl) (by (dsimp only [List.set, List.cons_append, List.nil_append, List.take, List.drop]; done)) (by (dsimp only [List.set, List.cons_append, List.nil_append, List.take, List.drop]; done)) ?_)
  refine AO.nil ?_
  refine AQ.blockN ?_
  refine AQ.thenN ?_
  refine AW.seq ?_
  refine AW.region ?_
  refine AO.op (O.move rfl rfl) rfl rfl rfl ?_
  refine AO.op (O.nilCheck rfl rfl) rfl rfl rfl ?_
  refine AO.op (O.fieldAddr rfl rfl) rfl rfl rfl ?_
  refine AO.op (O.load rfl rfl (by repeat (first | exact List.Mem.head _ | refine List.Mem.tail _ ?_)) (by rfl)) rfl rfl rfl ?_
  refine AO.op (O.leq rfl rfl rfl (by exact bTrue (by omega))) rfl rfl rfl ?_
  refine AO.op (O.assign rfl rfl) rfl rfl rfl ?_
  refine AO.nil ?_
  refine AQ.thenN ?_
  refine AW.ret ?_
  refine AQ.ret1 rfl rfl ⟨_, by repeat (first | exact List.Sublist.slnil | refine List.Sublist.cons_cons _ ?_ | refine List.Sublist.cons _ ?_), List.Perm.refl _⟩ (⟨rfl, rfl⟩)
theorem spendB_fn {B : Nat} {b : List UInt8} {it sz : Int} (hb : b.length < 24) (hs : 0 ≤ sz ∧ sz < 4000) : Sp Tryz.prog 117 [ptr B, .agg [.val (.int .i64 2), .val (.int .u64 0), roB b, .ro false 0 []]] [chkB B it sz] (IsM (.val (.bool true)) (chkB B it (sz + (1 + (b.length : Int))))) := by
  have z1 : ([u8 (32 * 2 + (b.length : Int))] : List UInt8).length = 1 := rfl
  refine Sp.enter Tryz.func117 rfl _ Tryz.ntmps117 rfl (fun w0 R0 => ?_)
  refine AW.seq ?_
  refine AW.region ?_
  refine AO.opB (O.box rfl rfl rfl rfl rfl) rfl rfl rfl ?_
  intro B1
  refine AO.op (O.assign rfl rfl) rfl rfl rfl ?_
  refine AO.nil ?_
  refine AQ.thenN ?_
  refine AW.seq ?_
  refine AW.seq ?_
  refine AW.region ?_
  refine AO.op (O.fieldAddr rfl rfl) rfl rfl rfl ?_
  refine AO.op (O.load rfl rfl (by repeat (exact List.Mem.head _)) (by rfl)) rfl rfl rfl ?_
  refine AO.nil ?_
  refine AQ.thenN ?_
  refine AW.block ?_
  refine AW.seq ?_
  refine AW.region ?_
  refine AO.op (O.eql rfl rfl rfl (by exact beq_eq_false_iff_ne.2 (by omega))) rfl rfl rfl ?_
  refine AO.op (O.assign rfl rfl) rfl rfl rfl ?_
  refine AO.nil ?_
  refine AQ.thenN ?_
  refine AW.condF rfl ?_
  refine AW.seq ?_
  refine AW.region ?_
  refine AO.op (O.eql rfl rfl rfl (by exact beq_eq_false_iff_ne.2 (by omega))) rfl rfl rfl ?_
  refine AO.op (O.assign rfl rfl) rfl rfl rfl ?_
  refine AO.nil ?_
  refine AQ.thenN ?_
  refine AW.condF rfl ?_
  refine AW.regionD 17 (by kernel_rfl) (by kernel_rfl) ?_
  simp only [List.take_succ_cons, List.take_zero, List.drop_succ_cons, List.drop_zero]
  refine FA.op (O.move rfl rfl) rfl rfl rfl rfl ?_
  refine FA.op (O.nilCheck rfl rfl) rfl rfl rfl rfl ?_
  refine FA.op (O.fieldAddr rfl rfl) rfl rfl rfl rfl ?_
  refine FA.op (O.load rfl rfl (by repeat (first | exact List.Mem.head _ | refine List.Mem.tail _ ?_)) (by rfl)) rfl rfl rfl rfl ?_
  (refine FA.op (O.loadK rfl rfl (by repeat (exact List.Mem.head _)) (by (dsimp only [List.set, List.cons_append, List.nil_append, List.take, List.drop]; done)) (by rfl)) rfl rfl rfl rfl ?_)
  refine FA.op (O.call rfl Tryz.func114 rfl rfl rfl (majorB_fn hb)) rfl rfl rfl rfl ?_
  refine FA.op (O.extract rfl rfl rfl) rfl rfl rfl rfl ?_
  refine FA.op (O.extract rfl rfl rfl) rfl rfl rfl rfl ?_
  refine FA.op (O.call rfl Tryz.func113 rfl rfl rfl (head_fn 2 (b.length : Int) ⟨by omega, by omega⟩ ⟨by omega, by omega⟩)) rfl rfl rfl rfl ?_
  refine FA.op (O.lenR rfl rfl) rfl rfl rfl rfl ?_
  refine FA.op (O.fieldAddr rfl rfl) rfl rfl rfl rfl ?_
  refine FA.op (O.load rfl rfl (by repeat (exact List.Mem.head _)) (by rfl)) rfl rfl rfl rfl ?_
  refine FA.op (O.lenR rfl rfl) rfl rfl rfl rfl ?_
  refine FA.op (O.add rfl rfl rfl (by exact wI64 (by omega))) rfl rfl rfl rfl ?_
  refine FA.op (O.add rfl rfl rfl (by exact wI64 (by omega))) rfl rfl rfl rfl ?_
  refine FA.op (O.nilCheck rfl rfl) rfl rfl rfl rfl ?_
  refine FA.op (O.fieldAddr rfl rfl) rfl rfl rfl rfl ?_
  refine FA.nil ?_
  simp only [chosen, List.nil_append, List.cons_append, List.append_nil]
  (refine AO.store (i := 1) rfl rfl rfl rfl rfl rfl (by rfl) (by rfl) (by rfl) (by (dsimp only [List.set, List.cons_append, List.nil_append, List.take, List.drop]; done)) (by (dsimp only [List.set, List.cons_append, List.nil_append, List.take, List.drop]; done)) ?_)
  refine AO.nil ?_
  refine AQ.blockN ?_
  refine AQ.thenN ?_
  refine AW.seq ?_
  refine AW.region ?_
  refine AO.op (O.move rfl rfl) rfl rfl rfl ?_
  refine AO.op (O.nilCheck rfl rfl) rfl rfl rfl ?_
  refine AO.op (O.fieldAddr rfl rfl) rfl rfl rfl ?_
  refine AO.op (O.load rfl rfl (by repeat (first | exact List.Mem.head _ | refine List.Mem.tail _ ?_)) (by rfl)) rfl rfl rfl ?_
  refine AO.op (O.leq rfl rfl rfl (by exact bTrue (by omega))) rfl rfl rfl ?_
  refine AO.op (O.assign rfl rfl) rfl rfl rfl ?_
  refine AO.nil ?_
  refine AQ.thenN ?_
  refine AW.ret ?_
  refine AQ.ret1 rfl rfl ⟨_, by repeat (first | exact List.Sublist.slnil | refine List.Sublist.cons_cons _ ?_ | refine List.Sublist.cons _ ?_), List.Perm.refl _⟩ (⟨rfl, rfl⟩)
theorem spendA_fn {B m : Nat} {xs : List AV} {it sz : Int} (hm : m < 24) (hs : 0 ≤ sz ∧ sz < 4000) : Sp Tryz.prog 117 [ptr B, .agg [.val (.int .i64 4), .val (.int .u64 0), roB [], .ro false m xs]] [chkB B it sz] (IsM (.val (.bool true)) (chkB B it (sz + 1))) := by
  have z1 : ([u8 (32 * 4 + (m : Int))] : List UInt8).length = 1 := rfl
  have z2 : ([] : List UInt8).length = 0 := rfl
  refine Sp.enter Tryz.func117 rfl _ Tryz.ntmps117 rfl (fun w0 R0 => ?_)
  refine AW.seq ?_
  refine AW.region ?_
  refine AO.opB (O.box rfl rfl rfl rfl rfl) rfl rfl rfl ?_
  intro B1
  refine AO.op (O.assign rfl rfl) rfl rfl rfl ?_
  refine AO.nil ?_
  refine AQ.thenN ?_
  refine AW.seq ?_
  refine AW.seq ?_
  refine AW.region ?_
  refine AO.op (O.fieldAddr rfl rfl) rfl rfl rfl ?_
  refine AO.op (O.load rfl rfl (by repeat (exact List.Mem.head _)) (by rfl)) rfl rfl rfl ?_
  refine AO.nil ?_
  refine AQ.thenN ?_
  refine AW.block ?_
  refine AW.seq ?_
  refine AW.region ?_
  refine AO.op (O.eql rfl rfl rfl (by exact beq_eq_false_iff_ne.2 (by omega))) rfl rfl rfl ?_
  refine AO.op (O.assign rfl rfl) rfl rfl rfl ?_
  refine AO.nil ?_
  refine AQ.thenN ?_
  refine AW.condF rfl ?_
  refine AW.seq ?_
  refine AW.region ?_
  refine AO.op (O.eql rfl rfl rfl (by exact beq_eq_false_iff_ne.2 (by omega))) rfl rfl rfl ?_
  refine AO.op (O.assign rfl rfl) rfl rfl rfl ?_
  refine AO.nil ?_
  refine AQ.thenN ?_
  refine AW.condF rfl ?_
  refine AW.regionD 17 (by kernel_rfl) (by kernel_rfl) ?_
  simp only [List.take_succ_cons, List.take_zero, List.drop_succ_cons, List.drop_zero]
  refine FA.op (O.move rfl rfl) rfl rfl rfl rfl ?_
  refine FA.op (O.nilCheck rfl rfl) rfl rfl rfl rfl ?_
  refine FA.op (O.fieldAddr rfl rfl) rfl rfl rfl rfl ?_
  refine FA.op (O.load rfl rfl (by repeat (first | exact List.Mem.head _ | refine List.Mem.tail _ ?_)) (by rfl)) rfl rfl rfl rfl ?_
  (refine FA.op (O.loadK rfl rfl (by repeat (exact List.Mem.head _)) (by (dsimp only [List.set, List.cons_append, List.nil_append, List.take, List.drop]; done)) (by rfl)) rfl rfl rfl rfl ?_)
  refine FA.op (O.call rfl Tryz.func114 rfl rfl rfl (majorA_fn hm)) rfl rfl rfl rfl ?_
  refine FA.op (O.extract rfl rfl rfl) rfl rfl rfl rfl ?_
  refine FA.op (O.extract rfl rfl rfl) rfl rfl rfl rfl ?_
  refine FA.op (O.call rfl Tryz.func113 rfl rfl rfl (head_fn 4 (m : Int) ⟨by omega, by omega⟩ ⟨by omega, by omega⟩)) rfl rfl rfl rfl ?_
  refine FA.op (O.lenR rfl rfl) rfl rfl rfl rfl ?_
  refine FA.op (O.fieldAddr rfl rfl) rfl rfl rfl rfl ?_
  refine FA.op (O.load rfl rfl (by repeat (exact List.Mem.head _)) (by rfl)) rfl rfl rfl rfl ?_
  refine FA.op (O.lenR rfl rfl) rfl rfl rfl rfl ?_
  refine FA.op (O.add rfl rfl rfl (by exact wI64 (by omega))) rfl rfl rfl rfl ?_
  refine FA.op (O.add rfl rfl rfl (by exact wI64 (by omega))) rfl rfl rfl rfl ?_
  refine FA.op (O.nilCheck rfl rfl) rfl rfl rfl rfl ?_
  refine FA.op (O.fieldAddr rfl rfl) rfl rfl rfl rfl ?_
  refine FA.nil ?_
  simp only [chosen, List.nil_append, List.cons_append, List.append_nil]
  (refine AO.store (i := 1) rfl rfl rfl rfl rfl rfl (by rfl) (by rfl) (by rfl) (by (dsimp only [List.set, List.cons_append, List.nil_append, List.take, List.drop]; done)) (by (dsimp only [List.set, List.cons_append, List.nil_append, List.take, List.drop]; done)) ?_)
  refine AO.nil ?_
  refine AQ.blockN ?_
  refine AQ.thenN ?_
  refine AW.seq ?_
  refine AW.region ?_
  refine AO.op (O.move rfl rfl) rfl rfl rfl ?_
  refine AO.op (O.nilCheck rfl rfl) rfl rfl rfl ?_
  refine AO.op (O.fieldAddr rfl rfl) rfl rfl rfl ?_
  refine AO.op (O.load rfl rfl (by repeat (first | exact List.Mem.head _ | refine List.Mem.tail _ ?_)) (by rfl)) rfl rfl rfl ?_
  refine AO.op (O.leq rfl rfl rfl (by exact bTrue (by omega))) rfl rfl rfl ?_
  refine AO.op (O.assign rfl rfl) rfl rfl rfl ?_
  refine AO.nil ?_
  refine AQ.thenN ?_
  refine AW.ret ?_
  refine AQ.ret1 rfl rfl ⟨_, by repeat (first | exact List.Sublist.slnil | refine List.Sublist.cons_cons _ ?_ | refine List.Sublist.cons _ ?_), List.Perm.refl _⟩ (⟨rfl, rfl⟩)
theorem chkL_fn {B : Nat} {k n it sz lv : Int} (hk : k = 0 ∨ k = 1) (hn : 0 ≤ n ∧ n < 24) (hi : 0 ≤ it ∧ it < 200) (hs : 0 ≤ sz ∧ sz < 4000) : Sp Tryz.prog 95 [ptr B, .agg [.val (.int .i64 k), .val (.int .u64 n), roB [], .ro false 0 []], .val (.int .i64 lv)] [chkB B it sz] (IsM (.val (.bool true)) (chkB B (it + 1) (sz + 1))) := by
  have z2 : ([] : List UInt8).length = 0 := rfl
  refine Sp.enter Tryz.func95 rfl _ Tryz.ntmps95 rfl (fun w0 R0 => ?_)
  refine AW.seq ?_
  refine AW.region ?_
  refine AO.opB (O.box rfl rfl rfl rfl rfl) rfl rfl rfl ?_
  intro B1
  refine AO.op (O.assign rfl rfl) rfl rfl rfl ?_
  refine AO.nil ?_
  refine AQ.thenN ?_
  refine AW.seq ?_
  refine AW.region ?_
  refine AO.op (O.move rfl rfl) rfl rfl rfl ?_
  refine AO.op (O.nilCheck rfl rfl) rfl rfl rfl ?_
  refine AO.op (O.fieldAddr rfl rfl) rfl rfl rfl ?_
  refine AO.op (O.load rfl rfl (by repeat (first | exact List.Mem.head _ | refine List.Mem.tail _ ?_)) (by rfl)) rfl rfl rfl ?_
  refine AO.op (O.add rfl rfl rfl (by exact wI64 (by omega))) rfl rfl rfl ?_
  refine AO.op (O.nilCheck rfl rfl) rfl rfl rfl ?_
  refine AO.op (O.fieldAddr rfl rfl) rfl rfl rfl ?_
  (refine AO.store (i := 1) rfl rfl rfl rfl rfl rfl (by rfl) (by rfl) (by rfl) (by (dsimp only [List.set, List.cons_append, List.nil_append, List.take, List.drop]; done)) (by (dsimp only [List.set, List.cons_append, List.nil_append, List.take, List.drop]; done)) ?_)
  refine AO.nil ?_
  refine AQ.thenN ?_
  refine AW.seq ?_
  refine AW.seq ?_
  refine AW.region ?_
  refine AO.op (O.move rfl rfl) rfl rfl rfl ?_
  refine AO.op (O.nilCheck rfl rfl) rfl rfl rfl ?_
  refine AO.op (O.fieldAddr rfl rfl) rfl rfl rfl ?_
  refine AO.op (O.load rfl rfl (by repeat (first | exact List.Mem.head _ | refine List.Mem.tail _ ?_)) (by rfl)) rfl rfl rfl ?_
  refine AO.op (O.gtr rfl rfl rfl (by exact bFalse (by omega))) rfl rfl rfl ?_
  refine AO.op (O.move rfl rfl) rfl rfl rfl ?_
  refine AO.op (O.fieldAddr rfl rfl) rfl rfl rfl ?_
  refine AO.op (O.load rfl rfl (by repeat (exact List.Mem.head _)) (by rfl)) rfl rfl rfl ?_
  refine AO.op (O.lenR rfl rfl) rfl rfl rfl ?_
  refine AO.op (O.gtr rfl rfl rfl (by exact bFalse (by omega))) rfl rfl rfl ?_
  refine AO.op (O.pickF rfl rfl rfl) rfl rfl rfl ?_
  refine AO.op (O.move rfl rfl) rfl rfl rfl ?_
  refine AO.op (O.fieldAddr rfl rfl) rfl rfl rfl ?_
  refine AO.op (O.load rfl rfl (by repeat (exact List.Mem.head _)) (by rfl)) rfl rfl rfl ?_
  refine AO.op (O.lenR rfl rfl) rfl rfl rfl ?_
  refine AO.op (O.gtr rfl rfl rfl (by exact bFalse (by omega))) rfl rfl rfl ?_
  refine AO.op (O.pickF rfl rfl rfl) rfl rfl rfl ?_
  refine AO.nil ?_
  refine AQ.thenN ?_
  refine AW.condF rfl ?_
  refine AW.skip ?_
  refine AQ.thenN ?_
  refine AW.seq ?_
  refine AW.seq ?_
  refine AW.region ?_
  (refine AO.op (O.loadK rfl rfl (by repeat (exact List.Mem.head _)) (by (dsimp only [List.set, List.cons_append, List.nil_append, List.take, List.drop]; done)) (by rfl)) rfl rfl rfl ?_)
  refine AO.op (O.call rfl Tryz.func116 rfl rfl rfl (plainL_fn hk)) rfl rfl rfl ?_
  refine AO.op (O.move rfl rfl) rfl rfl rfl ?_
  refine AO.op (O.extract rfl rfl rfl) rfl rfl rfl ?_
  refine AO.op (O.extract rfl rfl rfl) rfl rfl rfl ?_
  refine AO.op (O.assign rfl rfl) rfl rfl rfl ?_
  refine AO.op (O.assign rfl rfl) rfl rfl rfl ?_
  refine AO.nil ?_
  refine AQ.thenN ?_
  refine AW.seq ?_
  refine AW.region ?_
  refine AO.op (O.move rfl rfl) rfl rfl rfl ?_
  refine AO.nil ?_
  refine AQ.thenN ?_
  refine AW.condT rfl ?_
  refine AW.seq ?_
  refine AW.region ?_
  refine AO.op (O.move rfl rfl) rfl rfl rfl ?_
  refine AO.op (O.move rfl rfl) rfl rfl rfl ?_
  refine AO.op (O.move rfl rfl) rfl rfl rfl ?_
  (refine AO.op (O.loadK rfl rfl (by repeat (exact List.Mem.head _)) (by (dsimp only [List.set, List.cons_append, List.nil_append, List.take, List.drop]; done)) (by rfl)) rfl rfl rfl ?_)
  (refine AO.callM1w (i := 1) rfl rfl Tryz.func117 rfl rfl rfl rfl rfl rfl (spendL_fn hk hn hs) (by (dsimp only [List.set, List.cons_append, List.nil_append, List.take, List.drop]; done)) ?_)
  refine AO.op (O.pickT rfl rfl rfl) rfl rfl rfl ?_
  refine AO.op (O.assign rfl rfl) rfl rfl rfl ?_
  refine AO.nil ?_
  refine AQ.thenN ?_
  refine AW.ret ?_
  refine AQ.thenR ?_
  refine AQ.ret1 rfl rfl ⟨_, by repeat (first | exact List.Sublist.slnil | refine List.Sublist.cons_cons _ ?_ | refine List.Sublist.cons _ ?_), List.Perm.refl _⟩ (⟨rfl, rfl⟩)
theorem chkB_fn {B : Nat} {b : List UInt8} {it sz lv : Int} (hb : b.length < 24) (hi : 0 ≤ it ∧ it < 200) (hs : 0 ≤ sz ∧ sz < 4000) : Sp Tryz.prog 95 [ptr B, .agg [.val (.int .i64 2), .val (.int .u64 0), roB b, .ro false 0 []], .val (.int .i64 lv)] [chkB B it sz] (IsM (.val (.bool true)) (chkB B (it + 1) (sz + (1 + (b.length : Int))))) := by
  refine Sp.enter Tryz.func95 rfl _ Tryz.ntmps95 rfl (fun w0 R0 => ?_)
  refine AW.seq ?_
  refine AW.region ?_
  refine AO.opB (O.box rfl rfl rfl rfl rfl) rfl rfl rfl ?_
  intro B1
  refine AO.op (O.assign rfl rfl) rfl rfl rfl ?_
  refine AO.nil ?_
  refine AQ.thenN ?_
  refine AW.seq ?_
  refine AW.region ?_
  refine AO.op (O.move rfl rfl) rfl rfl rfl ?_
  refine AO.op (O.nilCheck rfl rfl) rfl rfl rfl ?_
  refine AO.op (O.fieldAddr rfl rfl) rfl rfl rfl ?_
  refine AO.op (O.load rfl rfl (by repeat (first | exact List.Mem.head _ | refine List.Mem.tail _ ?_)) (by rfl)) rfl rfl rfl ?_
  refine AO.op (O.add rfl rfl rfl (by exact wI64 (by omega))) rfl rfl rfl ?_
  refine AO.op (O.nilCheck rfl rfl) rfl rfl rfl ?_
  refine AO.op (O.fieldAddr rfl rfl) rfl rfl rfl ?_
  (refine AO.store (i := 1) rfl rfl rfl rfl rfl rfl (by rfl) (by rfl) (by rfl) (by (dsimp only [List.set, List.cons_append, List.nil_append, List.take, List.drop]; done)) (by (dsimp only [List.set, List.cons_append, List.nil_append, List.take, List.drop]; done)) ?_)
  refine AO.nil ?_
  refine AQ.thenN ?_
  refine AW.seq ?_
  refine AW.seq ?_
  refine AW.region ?_
  refine AO.op (O.move rfl rfl) rfl rfl rfl ?_
  refine AO.op (O.nilCheck rfl rfl) rfl rfl rfl ?_
  refine AO.op (O.fieldAddr rfl rfl) rfl rfl rfl ?_
  refine AO.op (O.load rfl rfl (by repeat (first | exact List.Mem.head _ | refine List.Mem.tail _ ?_)) (by rfl)) rfl rfl rfl ?_
  refine AO.op (O.gtr rfl rfl rfl (by exact bFalse (by omega))) rfl rfl rfl ?_
  refine AO.op (O.move rfl rfl) rfl rfl rfl ?_
  refine AO.op (O.fieldAddr rfl rfl) rfl rfl rfl ?_
  refine AO.op (O.load rfl rfl (by repeat (exact List.Mem.head _)) (by rfl)) rfl rfl rfl ?_
  refine AO.op (O.lenR rfl rfl) rfl rfl rfl ?_
  refine AO.op (O.gtr rfl rfl rfl (by exact bFalse (by omega))) rfl rfl rfl ?_
  refine AO.op (O.pickF rfl rfl rfl) rfl rfl rfl ?_
  refine AO.op (O.move rfl rfl) rfl rfl rfl ?_
  refine AO.op (O.fieldAddr rfl rfl) rfl rfl rfl ?_
  refine AO.op (O.load rfl rfl (by repeat (exact List.Mem.head _)) (by rfl)) rfl rfl rfl ?_
  refine AO.op (O.lenR rfl rfl) rfl rfl rfl ?_
  refine AO.op (O.gtr rfl rfl rfl (by exact bFalse (by omega))) rfl rfl rfl ?_
  refine AO.op (O.pickF rfl rfl rfl) rfl rfl rfl ?_
  refine AO.nil ?_
  refine AQ.thenN ?_
  refine AW.condF rfl ?_
  refine AW.skip ?_
  refine AQ.thenN ?_
  refine AW.seq ?_
  refine AW.seq ?_
  refine AW.region ?_
  (refine AO.op (O.loadK rfl rfl (by repeat (exact List.Mem.head _)) (by (dsimp only [List.set, List.cons_append, List.nil_append, List.take, List.drop]; done)) (by rfl)) rfl rfl rfl ?_)
  refine AO.op (O.call rfl Tryz.func116 rfl rfl rfl (plainB_fn)) rfl rfl rfl ?_
  refine AO.op (O.move rfl rfl) rfl rfl rfl ?_
  refine AO.op (O.extract rfl rfl rfl) rfl rfl rfl ?_
  refine AO.op (O.extract rfl rfl rfl) rfl rfl rfl ?_
  refine AO.op (O.assign rfl rfl) rfl rfl rfl ?_
  refine AO.op (O.assign rfl rfl) rfl rfl rfl ?_
  refine AO.nil ?_
  refine AQ.thenN ?_
  refine AW.seq ?_
  refine AW.region ?_
  refine AO.op (O.move rfl rfl) rfl rfl rfl ?_
  refine AO.nil ?_
  refine AQ.thenN ?_
  refine AW.condT rfl ?_
  refine AW.seq ?_
  refine AW.region ?_
  refine AO.op (O.move rfl rfl) rfl rfl rfl ?_
  refine AO.op (O.move rfl rfl) rfl rfl rfl ?_
  refine AO.op (O.move rfl rfl) rfl rfl rfl ?_
  (refine AO.op (O.loadK rfl rfl (by repeat (exact List.Mem.head _)) (by (dsimp only [List.set, List.cons_append, List.nil_append, List.take, List.drop]; done)) (by rfl)) rfl rfl rfl ?_)
  (refine AO.callM1w (i := 1) rfl rfl Tryz.func117 rfl rfl rfl rfl rfl rfl (spendB_fn hb hs) (by (dsimp only [List.set, List.cons_append, List.nil_append, List.take, List.drop]; done)) ?_)
  refine AO.op (O.pickT rfl rfl rfl) rfl rfl rfl ?_
  refine AO.op (O.assign rfl rfl) rfl rfl rfl ?_
  refine AO.nil ?_
  refine AQ.thenN ?_
  refine AW.ret ?_
  refine AQ.thenR ?_
  refine AQ.ret1 rfl rfl ⟨_, by repeat (first | exact List.Sublist.slnil | refine List.Sublist.cons_cons _ ?_ | refine List.Sublist.cons _ ?_), List.Perm.refl _⟩ (⟨rfl, rfl⟩)
/-! ### Trees -/
theorem enc_leaf {k n : Int} {b : List UInt8} : (It.mk k n b []).enc = u8 (32 * k + hnI k n b 0) :: b := by
  rw [It.enc, encL, List.append_nil]; rfl
theorem enc_arr {n : Int} {l : List It} : (It.mk 4 n [] l).enc = u8 (32 * 4 + (l.length : Int)) :: encL l := by
  rw [It.enc]; rfl
theorem node_mk {k n : Int} {b : List UInt8} {l : List It} : (It.mk k n b l).nodes = 1 + nodesL l := by rw [It.nodes]
abbrev ChkSp (B : Nat) (x : It) (lv : Int) : Prop := ∀ it sz : Int, 0 ≤ it → it + x.nodes < 200 → 0 ≤ sz → sz + x.enc.length < 4000 →
  Sp Tryz.prog 95 [ptr B, .agg x.cells, .val (.int .i64 lv)] [chkB B it sz] (IsM (.val (.bool true)) (chkB B (it + x.nodes) (sz + x.enc.length)))
theorem chk_leaf {B : Nat} {x : It} (h : leafI x) (lv : Int) : ChkSp B x lv := by
  obtain ⟨k, n, b, l⟩ := x
  intro it sz h1 h2 h3 h4
  rcases h with ⟨rfl, ⟨hk, hn, hn2, rfl⟩ | ⟨rfl, rfl, hb⟩⟩
  · rw [enc_leaf, node_mk, nodesL] at *
    simp only [List.length_cons, List.length_nil] at h4 ⊢
    exact chkL_fn hk ⟨hn, hn2⟩ ⟨h1, by omega⟩ ⟨h3, by omega⟩
  · rw [enc_leaf, node_mk, nodesL] at *
    simp only [List.length_cons] at h4 ⊢
    have := chkB_fn (B := B) (it := it) (sz := sz) (lv := lv) hb ⟨h1, by omega⟩ ⟨h3, by omega⟩
    rw [show sz + (1 + (b.length : Int)) = sz + ((b.length + 1 : Nat) : Int) by omega] at this
    exact this
theorem chk_arr {B : Nat} {l : List It} {lv : Int} (hlv : 0 ≤ lv ∧ lv < 8) (hm : l.length < 24) (hS : ∀ q, q < l.length → ChkSp B (itat l q) (lv + 1)) : ChkSp B (.mk 4 0 [] l) lv := by
  intro it sz h1 h2 h3 h4
  rw [enc_arr, node_mk] at *
  simp only [List.length_cons] at h4 ⊢
  have hs : 0 ≤ sz ∧ sz < 4000 := by omega
  have z2 : ([] : List UInt8).length = 0 := rfl
  show Sp Tryz.prog 95 [ptr B, .agg [.val (.int .i64 4), .val (.int .u64 0), roB [], .ro false l.length (itsA l)], .val (.int .i64 lv)] [chkB B it sz] _
  refine Sp.enter Tryz.func95 rfl _ Tryz.ntmps95 rfl (fun w0 R0 => ?_)
  refine AW.seq ?_
  refine AW.region ?_
  refine AO.opB (O.box rfl rfl rfl rfl rfl) rfl rfl rfl ?_
  intro B1
  refine AO.op (O.assign rfl rfl) rfl rfl rfl ?_
  refine AO.nil ?_
  refine AQ.thenN ?_
  refine AW.seq ?_
  refine AW.region ?_
  refine AO.op (O.move rfl rfl) rfl rfl rfl ?_
  refine AO.op (O.nilCheck rfl rfl) rfl rfl rfl ?_
  refine AO.op (O.fieldAddr rfl rfl) rfl rfl rfl ?_
  refine AO.op (O.load rfl rfl (by repeat (first | exact List.Mem.head _ | refine List.Mem.tail _ ?_)) (by rfl)) rfl rfl rfl ?_
  refine AO.op (O.add rfl rfl rfl (by exact wI64 (by omega))) rfl rfl rfl ?_
  refine AO.op (O.nilCheck rfl rfl) rfl rfl rfl ?_
  refine AO.op (O.fieldAddr rfl rfl) rfl rfl rfl ?_
  (refine AO.store (i := 1) rfl rfl rfl rfl rfl rfl (by rfl) (by rfl) (by rfl) (by (dsimp only [List.set, List.cons_append, List.nil_append, List.take, List.drop]; done)) (by (dsimp only [List.set, List.cons_append, List.nil_append, List.take, List.drop]; done)) ?_)
  refine AO.nil ?_
  refine AQ.thenN ?_
  refine AW.seq ?_
  refine AW.seq ?_
  refine AW.region ?_
  refine AO.op (O.move rfl rfl) rfl rfl rfl ?_
  refine AO.op (O.nilCheck rfl rfl) rfl rfl rfl ?_
  refine AO.op (O.fieldAddr rfl rfl) rfl rfl rfl ?_
  refine AO.op (O.load rfl rfl (by repeat (first | exact List.Mem.head _ | refine List.Mem.tail _ ?_)) (by rfl)) rfl rfl rfl ?_
  refine AO.op (O.gtr rfl rfl rfl (by exact bFalse (by omega))) rfl rfl rfl ?_
  refine AO.op (O.move rfl rfl) rfl rfl rfl ?_
  refine AO.op (O.fieldAddr rfl rfl) rfl rfl rfl ?_
  refine AO.op (O.load rfl rfl (by repeat (exact List.Mem.head _)) (by rfl)) rfl rfl rfl ?_
  refine AO.op (O.lenR rfl rfl) rfl rfl rfl ?_
  refine AO.op (O.gtr rfl rfl rfl (by exact bFalse (by omega))) rfl rfl rfl ?_
  refine AO.op (O.pickF rfl rfl rfl) rfl rfl rfl ?_
  refine AO.op (O.move rfl rfl) rfl rfl rfl ?_
  refine AO.op (O.fieldAddr rfl rfl) rfl rfl rfl ?_
  refine AO.op (O.load rfl rfl (by repeat (exact List.Mem.head _)) (by rfl)) rfl rfl rfl ?_
  refine AO.op (O.lenR rfl rfl) rfl rfl rfl ?_
  refine AO.op (O.gtr rfl rfl rfl (by exact bFalse (by omega))) rfl rfl rfl ?_
  refine AO.op (O.pickF rfl rfl rfl) rfl rfl rfl ?_
  refine AO.nil ?_
  refine AQ.thenN ?_
  refine AW.condF rfl ?_
  refine AW.skip ?_
  refine AQ.thenN ?_
  refine AW.seq ?_
  refine AW.seq ?_
  refine AW.region ?_
  (refine AO.op (O.loadK rfl rfl (by repeat (exact List.Mem.head _)) (by (dsimp only [List.set, List.cons_append, List.nil_append, List.take, List.drop]; done)) (by rfl)) rfl rfl rfl ?_)
  refine AO.op (O.call rfl Tryz.func116 rfl rfl rfl (plainA_fn)) rfl rfl rfl ?_
  refine AO.op (O.move rfl rfl) rfl rfl rfl ?_
  refine AO.op (O.extract rfl rfl rfl) rfl rfl rfl ?_
  refine AO.op (O.extract rfl rfl rfl) rfl rfl rfl ?_
  refine AO.op (O.assign rfl rfl) rfl rfl rfl ?_
  refine AO.op (O.assign rfl rfl) rfl rfl rfl ?_
  refine AO.nil ?_
  refine AQ.thenN ?_
  refine AW.seq ?_
  refine AW.region ?_
  refine AO.op (O.move rfl rfl) rfl rfl rfl ?_
  refine AO.nil ?_
  refine AQ.thenN ?_
  refine AW.condF rfl ?_
  refine AW.skip ?_
  refine AQ.thenN ?_
  refine AW.seq ?_
  refine AW.seq ?_
  refine AW.region ?_
  refine AO.op (O.fieldAddr rfl rfl) rfl rfl rfl ?_
  refine AO.op (O.load rfl rfl (by repeat (exact List.Mem.head _)) (by rfl)) rfl rfl rfl ?_
  refine AO.op (O.lss rfl rfl rfl (by exact bFalse (by omega))) rfl rfl rfl ?_
  refine AO.op (O.move rfl rfl) rfl rfl rfl ?_
  refine AO.op (O.fieldAddr rfl rfl) rfl rfl rfl ?_
  refine AO.op (O.load rfl rfl (by repeat (exact List.Mem.head _)) (by rfl)) rfl rfl rfl ?_
  refine AO.op (O.gtr rfl rfl rfl (by exact bFalse (by omega))) rfl rfl rfl ?_
  refine AO.op (O.pickF rfl rfl rfl) rfl rfl rfl ?_
  refine AO.op (O.move rfl rfl) rfl rfl rfl ?_
  refine AO.op (O.move rfl rfl) rfl rfl rfl ?_
  refine AO.op (O.geq rfl rfl rfl (by exact bFalse (by omega))) rfl rfl rfl ?_
  refine AO.op (O.pickF rfl rfl rfl) rfl rfl rfl ?_
  refine AO.op (O.move rfl rfl) rfl rfl rfl ?_
  refine AO.op (O.fieldAddr rfl rfl) rfl rfl rfl ?_
  refine AO.op (O.load rfl rfl (by repeat (exact List.Mem.head _)) (by rfl)) rfl rfl rfl ?_
  refine AO.op (O.lenR rfl rfl) rfl rfl rfl ?_
  refine AO.op (O.gtr rfl rfl rfl (by exact bFalse (by omega))) rfl rfl rfl ?_
  refine AO.op (O.pickF rfl rfl rfl) rfl rfl rfl ?_
  refine AO.nil ?_
  refine AQ.thenN ?_
  refine AW.condF rfl ?_
  refine AW.skip ?_
  refine AQ.thenN ?_
  refine AW.seq ?_
  refine AW.seq ?_
  refine AW.region ?_
  refine AO.op (O.fieldAddr rfl rfl) rfl rfl rfl ?_
  refine AO.op (O.load rfl rfl (by repeat (exact List.Mem.head _)) (by rfl)) rfl rfl rfl ?_
  refine AO.op (O.eql rfl rfl rfl (by exact beq_eq_false_iff_ne.2 (by omega))) rfl rfl rfl ?_
  refine AO.op (O.move rfl rfl) rfl rfl rfl ?_
  refine AO.no rfl rfl rfl ?_
  refine AO.no rfl rfl rfl ?_
  refine AO.no rfl rfl rfl ?_
  refine AO.no rfl rfl rfl ?_
  refine AO.op (O.pickF rfl rfl rfl) rfl rfl rfl ?_
  refine AO.op (O.move rfl rfl) rfl rfl rfl ?_
  refine AO.op (O.fieldAddr rfl rfl) rfl rfl rfl ?_
  refine AO.op (O.load rfl rfl (by repeat (exact List.Mem.head _)) (by rfl)) rfl rfl rfl ?_
  refine AO.op (O.neq rfl rfl rfl (by exact bne_iff_ne.2 (by omega))) rfl rfl rfl ?_
  refine AO.op (O.move rfl rfl) rfl rfl rfl ?_
  refine AO.op (O.fieldAddr rfl rfl) rfl rfl rfl ?_
  refine AO.op (O.load rfl rfl (by repeat (exact List.Mem.head _)) (by rfl)) rfl rfl rfl ?_
  refine AO.op (O.neq rfl rfl rfl (by exact bne_eq_false_iff_eq.2 (by omega))) rfl rfl rfl ?_
  refine AO.op (O.pickT rfl rfl rfl) rfl rfl rfl ?_
  refine AO.op (O.pickF rfl rfl rfl) rfl rfl rfl ?_
  refine AO.op (O.move rfl rfl) rfl rfl rfl ?_
  refine AO.op (O.fieldAddr rfl rfl) rfl rfl rfl ?_
  refine AO.op (O.load rfl rfl (by repeat (exact List.Mem.head _)) (by rfl)) rfl rfl rfl ?_
  refine AO.op (O.eql rfl rfl rfl (by exact beq_eq_false_iff_ne.2 (by omega))) rfl rfl rfl ?_
  refine AO.op (O.move rfl rfl) rfl rfl rfl ?_
  refine AO.no rfl rfl rfl ?_
  refine AO.no rfl rfl rfl ?_
  refine AO.no rfl rfl rfl ?_
  refine AO.no rfl rfl rfl ?_
  refine AO.no rfl rfl rfl ?_
  refine AO.op (O.pickF rfl rfl rfl) rfl rfl rfl ?_
  refine AO.op (O.pickF rfl rfl rfl) rfl rfl rfl ?_
  refine AO.nil ?_
  refine AQ.thenN ?_
  refine AW.condF rfl ?_
  refine AW.skip ?_
  refine AQ.thenN ?_
  refine AW.seq ?_
  refine AW.seq ?_
  refine AW.region ?_
  refine AO.op (O.move rfl rfl) rfl rfl rfl ?_
  (refine AO.op (O.loadK rfl rfl (by repeat (exact List.Mem.head _)) (by (dsimp only [List.set, List.cons_append, List.nil_append, List.take, List.drop]; done)) (by rfl)) rfl rfl rfl ?_)
  (refine AO.callM1 (i := 1) rfl rfl Tryz.func117 rfl rfl rfl rfl rfl rfl (spendA_fn hm hs) (by (dsimp only [List.set, List.cons_append, List.nil_append, List.take, List.drop]; done)) ?_)
  refine AO.op (O.not rfl rfl (by rfl)) rfl rfl rfl ?_
  refine AO.nil ?_
  refine AQ.thenN ?_
  refine AW.condF rfl ?_
  refine AW.skip ?_
  refine AQ.thenN ?_
  refine AW.seq ?_
  refine AW.seq ?_
  refine AW.region ?_
  refine AO.op (O.fieldAddr rfl rfl) rfl rfl rfl ?_
  refine AO.op (O.load rfl rfl (by repeat (exact List.Mem.head _)) (by rfl)) rfl rfl rfl ?_
  refine AO.op (O.lenR rfl rfl) rfl rfl rfl ?_
  refine AO.op (O.move rfl rfl) rfl rfl rfl ?_
  refine AO.nil ?_
  refine AQ.thenN ?_
  refine AW.block ?_
  have hnl : ∀ k, k ≤ l.length → nodesL (l.take k) ≤ nodesL l ∧ (encL (l.take k)).length ≤ (encL l).length := fun k hk => by
    have h5 := nodesL_app (l.take k) (l.drop k)
    have h6 := congrArg List.length (encL_app (l.take k) (l.drop k))
    rw [List.take_append_drop] at h5 h6
    rw [List.length_append] at h6
    omega
  refine AW.loopK [(0, _), (2, _), (4, _), (101, _), (102, _)] (fun nn E H => ∃ (k : Nat) (u v : Int), (k ≤ l.length) ∧ (u = it + 1 + (nodesL (l.take k) : Nat)) ∧ (v = sz + 1 + ((encL (l.take k)).length : Nat)) ∧ nn = l.length - k ∧ E = [(103, .val (.int .i64 (k : Int)))] ∧ H = [.blk B1 100 4 [.val (.int .i64 4), .val (.int .u64 0), roB [], .ro false l.length (itsA l)], chkB B u v]) _ (⟨0, it + 1, sz + 1, by omega, (by simp [nodesL]), (by simp [encL]), rfl, rfl, rfl⟩) (by repeat (first | exact envNil | refine envCons rfl ?_)) (by repeat (first | exact envNil | refine envCons rfl ?_)) (by repeat (first | exact subPnil | refine subPcons 0 rfl ?_)) ?_
  rintro nn E H ⟨k, u, v, hk, hu, hv, rfl, rfl, rfl⟩
  dsimp only [List.cons_append, List.nil_append]
  refine AW.seq ?_
  refine AW.region ?_
  refine AO.op (O.lss rfl rfl rfl (by rfl)) rfl rfl rfl ?_
  refine AO.nil ?_
  refine AQ.thenN ?_
  refine AW.seq ?_
  refine AW.split rfl (fun hlt => ?_) (fun hlt => ?_) <;> (try simp only [decide_eq_true_eq, decide_eq_false_iff_not, beq_iff_eq, beq_eq_false_iff_ne, bne_iff_ne, bne_eq_false_iff_eq, Bool.not_eq_true', Bool.not_eq_false', Bool.not_eq_true, Bool.not_eq_false, ne_eq, Int.not_lt, Int.not_le, Bool.and_eq_true, Bool.or_eq_true, Bool.or_eq_false_iff, Bool.and_eq_false_imp, strOf_toList, Decidable.not_not] at hlt)
  · skip
    have hkl : k < l.length := by omega
    obtain ⟨kk, nn', bb, ll, hx⟩ : ∃ kk nn' bb ll, itat l k = .mk kk nn' bb ll := by cases h : itat l k; exact ⟨_, _, _, _, rfl⟩
    have hg : ((itsA l).drop (Int.toNat (k : Int) * 4)).take 4 = [.val (.int .i64 kk), .val (.int .u64 nn'), roB bb, .ro false ll.length (itsA ll)] := by
      rw [getIt hkl (by omega), hx, It.cells]
    have hSk := hS k hkl
    rw [hx] at hSk
    unfold ChkSp at hSk
    rw [It.cells] at hSk
    have hsn := take_snoc itN hkl
    have e1 := nodesL_snoc (l.take k) (itat l k)
    have e2 := congrArg List.length (encL_snoc (l.take k) (itat l k))
    rw [← hsn, hx] at e1 e2
    rw [List.length_append] at e2
    have h5 := hnl (k + 1) (by omega)
    refine AW.skip ?_
    refine AQ.thenN ?_
    refine AW.seq ?_
    refine AW.block ?_
    refine AW.seq ?_
    refine AW.region ?_
    refine AO.op (O.idxR rfl rfl rfl ⟨(by omega), (by omega)⟩) rfl rfl rfl ?_
    refine AO.op (O.loadRK rfl rfl (by exact hg) (by rfl)) rfl rfl rfl ?_
    refine AO.opB (O.alloc rfl (by (dsimp only [zerosA, List.replicate, List.append, List.flatten, AV.cells, Value.cells, List.toList_toArray, List.map]; done)) (by rfl)) rfl rfl rfl ?_
    intro B2
    (refine AO.store (i := 0) rfl rfl rfl rfl rfl rfl (by rfl) (by rfl) (by rfl) (by (dsimp only [List.set, List.cons_append, List.nil_append, List.take, List.drop]; done)) (by (dsimp only [List.set, List.cons_append, List.nil_append, List.take, List.drop]; done)) ?_)
    refine AO.nil ?_
    refine AQ.thenN ?_
    refine AW.seq ?_
    refine AW.region ?_
    refine AO.op (O.move rfl rfl) rfl rfl rfl ?_
    refine AO.op (O.loadK rfl rfl (by repeat (exact List.Mem.head _)) (by rfl) (by rfl)) rfl rfl rfl ?_
    refine AO.op (O.move rfl rfl) rfl rfl rfl ?_
    refine AO.op (O.add rfl rfl rfl (by exact wI64 (by omega))) rfl rfl rfl ?_
    (refine AO.callM1 (i := 2) rfl rfl Tryz.func95 rfl rfl rfl rfl rfl rfl (hSk _ _ (by omega) (by omega) (by omega) (by omega)) (by (dsimp only [List.set, List.cons_append, List.nil_append, List.take, List.drop]; done)) ?_)
    refine AO.op (O.not rfl rfl (by rfl)) rfl rfl rfl ?_
    refine AO.nil ?_
    refine AQ.thenN ?_
    refine AW.condF rfl ?_
    refine AW.skip ?_
    refine AQ.blockN ?_
    refine AQ.thenN ?_
    refine AW.region ?_
    refine AO.op (O.add rfl rfl rfl (by exact wI64 (by omega))) rfl rfl rfl ?_
    refine AO.op (O.move rfl rfl) rfl rfl rfl ?_
    refine AO.nil ?_
    refine AQ.loopKN _ _ _ (by omega) (⟨k + 1, u + (It.mk kk nn' bb ll).nodes, v + (It.mk kk nn' bb ll).enc.length, by omega, (by omega), (by omega), rfl, rfl, rfl⟩) (by repeat (first | exact envNil | refine envCons rfl ?_)) (by repeat (first | exact envNil | refine envCons rfl ?_)) (by repeat (first | exact subPnil | refine subPcons 1 rfl ?_))
  · skip
    obtain rfl : k = l.length := by omega
    rw [List.take_length] at hu hv
    obtain rfl : u = it + ((1 + nodesL l : Nat) : Int) := by omega
    obtain rfl : v = sz + (((encL l).length + 1 : Nat) : Int) := by omega
    refine AW.exit ?_
    refine AQ.thenX ?_
    refine AQ.loopX ?_
    refine AQ.blockX rfl ?_
    refine AQ.thenN ?_
    refine AW.seq ?_
    refine AW.region ?_
    refine AO.op (O.fieldAddr rfl rfl) rfl rfl rfl ?_
    refine AO.op (O.load rfl rfl (by repeat (exact List.Mem.head _)) (by rfl)) rfl rfl rfl ?_
    refine AO.op (O.neq rfl rfl rfl (by exact bne_iff_ne.2 (by omega))) rfl rfl rfl ?_
    refine AO.op (O.move rfl rfl) rfl rfl rfl ?_
    refine AO.no rfl rfl rfl ?_
    refine AO.no rfl rfl rfl ?_
    refine AO.no rfl rfl rfl ?_
    refine AO.op (O.pickT rfl rfl rfl) rfl rfl rfl ?_
    refine AO.op (O.assign rfl rfl) rfl rfl rfl ?_
    refine AO.nil ?_
    refine AQ.thenN ?_
    refine AW.ret ?_
    refine AQ.ret1 rfl rfl ⟨_, by repeat (first | exact List.Sublist.slnil | refine List.Sublist.cons_cons _ ?_ | refine List.Sublist.cons _ ?_), List.Perm.refl _⟩ (⟨rfl, rfl⟩)
theorem chk_fn : ∀ (d : Nat) (x : It) (B : Nat) (lv : Int), x.ok d → 0 ≤ lv → lv + d ≤ 8 → ChkSp B x lv
  | 0, x, B, lv, h, _, _ => chk_leaf h lv
  | d + 1, .mk k n b l, B, lv, h, h1, h2 => by
    rcases h with h | ⟨rfl, rfl, rfl, h4, h5⟩
    · exact chk_leaf h lv
    · exact chk_arr ⟨h1, by omega⟩ h4 fun q hq => chk_fn d _ B (lv + 1) (h5 _ (getD_mem itN hq)) (by omega) (by omega)
theorem cvalid_fn (d : Nat) (x : It) (hx : x.ok d) (hd : d ≤ 8) (h1 : x.nodes < 200) (h2 : x.enc.length < 4000) : Sp Tryz.prog 77 [.agg x.cells] [] (Is (.val (.bool true))) := by
  obtain ⟨xs, hxs⟩ : ∃ xs, xs = x.cells := ⟨_, rfl⟩
  have hl : xs.length = 4 := by rw [hxs]; exact cells_len x
  have hS := chk_fn d x
  obtain ⟨k, n, b, l⟩ := x
  rw [It.cells]
  refine Sp.enter Tryz.func77 rfl _ Tryz.ntmps77 rfl (fun w0 R0 => ?_)
  refine AW.seq ?_
  refine AW.region ?_
  refine AO.opB (O.box rfl rfl rfl rfl rfl) rfl rfl rfl ?_
  intro B1
  refine AO.op (O.assign rfl rfl) rfl rfl rfl ?_
  refine AO.nil ?_
  refine AQ.thenN ?_
  refine AW.seq ?_
  refine AW.region ?_
  refine AO.opB (O.alloc rfl (by (dsimp only [zerosA, List.replicate, List.append, List.flatten, AV.cells, Value.cells, List.toList_toArray, List.map]; done)) (by rfl)) rfl rfl rfl ?_
  intro B2
  refine AO.nil ?_
  refine AQ.thenN ?_
  refine AW.seq ?_
  refine AW.region ?_
  refine AO.op (O.loadK rfl rfl (by repeat (first | exact List.Mem.head _ | refine List.Mem.tail _ ?_)) (by rfl) (by rfl)) rfl rfl rfl ?_
  (refine AO.callM1 (i := 0) rfl rfl Tryz.func95 rfl rfl rfl rfl rfl rfl (hS _ 0 hx (by omega) (by omega) 0 0 (by omega) (by omega) (by omega) (by omega)) (by (dsimp only [List.set, List.cons_append, List.nil_append, List.take, List.drop]; done)) ?_)
  refine AO.op (O.assign rfl rfl) rfl rfl rfl ?_
  refine AO.nil ?_
  refine AQ.thenN ?_
  refine AW.ret ?_
  refine AQ.ret1 rfl rfl ⟨_, List.nil_sublist _, .nil⟩ (⟨rfl, rfl⟩)
end Go.Proofs.YtoonnnifelnaiaaGreatDoor.By

namespace Go.Proofs.YtoonnnifelnaiaaGreatDoor.By
open Go.RowKit L A Dk
set_option linter.unusedVariables false
set_option maxRecDepth 20000
set_option linter.unusedSimpArgs false
attribute [local irreducible] AW AQ AO
theorem validN_fn : Sp Tryz.prog 77 [itA 1 2 [] 0 []] [] (Is (.val (.bool true))) := by
  have h := cvalid_fn 0 (.mk 1 2 [] []) ⟨rfl, .inl ⟨.inr rfl, by omega, by omega, rfl⟩⟩ (by omega) (by rw [node_mk]; simp [nodesL]) (by rw [enc_leaf]; simp)
  rw [It.cells, itsA] at h
  exact h
theorem validA_fn : Sp Tryz.prog 77 [itA 4 0 [] 1 (uintR 1)] [] (Is (.val (.bool true))) := by
  have hl : leafI (.mk 0 1 [] []) := ⟨rfl, .inl ⟨.inl rfl, by omega, by omega, rfl⟩⟩
  have h := cvalid_fn 1 (.mk 4 0 [] [.mk 0 1 [] []]) (.inr ⟨rfl, rfl, rfl, by simp, fun y hy => by obtain rfl := List.mem_singleton.1 hy; exact hl⟩) (by omega) (by simp [It.nodes, nodesL]) (by simp [It.enc, encL])
  simp only [It.cells, itsA, List.append_nil, List.length_cons, List.length_nil] at h
  exact h
theorem intN_fn : Sp Tryz.prog 37 [.val (.int .i64 (-3))] [] (Is (itA 1 2 [] 0 [])) := by
  refine Sp.enter Tryz.func37 rfl _ Tryz.ntmps37 rfl (fun w0 R0 => ?_)
  refine AW.seq ?_
  refine AW.region ?_
  refine AO.opB (O.alloc rfl (by (dsimp only [zerosA, List.replicate, List.append, List.flatten, AV.cells, Value.cells, List.toList_toArray, List.map]; done)) (by rfl)) rfl rfl rfl ?_
  intro B1
  refine AO.nil ?_
  refine AQ.thenN ?_
  refine AW.seq ?_
  refine AW.seq ?_
  refine AW.region ?_
  refine AO.op (O.move rfl rfl) rfl rfl rfl ?_
  refine AO.op (O.lss rfl rfl rfl (by exact bTrue (by omega))) rfl rfl rfl ?_
  refine AO.nil ?_
  refine AQ.thenN ?_
  refine AW.condT rfl ?_
  refine AW.seq ?_
  refine AW.region ?_
  refine AO.op (O.move rfl rfl) rfl rfl rfl ?_
  refine AO.op (O.sub rfl rfl rfl (by exact wI64 (by omega))) rfl rfl rfl ?_
  refine AO.op (O.conv rfl rfl (by exact wU64 (by omega))) rfl rfl rfl ?_
  refine AO.op (O.build rfl rfl rfl (by rfl)) rfl rfl rfl ?_
  (refine AO.store (i := 0) rfl rfl rfl rfl rfl rfl (by rfl) (by rfl) (by rfl) (by (dsimp only [List.set, List.cons_append, List.nil_append, List.take, List.drop]; done)) (by (dsimp only [List.set, List.cons_append, List.nil_append, List.take, List.drop]; done)) ?_)
  refine AO.nil ?_
  refine AQ.thenN ?_
  refine AW.ret ?_
  refine AQ.thenR ?_
  refine FnQ.coe (AQ.retCell rfl rfl (by repeat (exact List.Mem.head _)) (by (dsimp only [List.set, List.cons_append, List.nil_append, List.take, List.drop]; done)) (by rfl) ⟨_, List.nil_sublist _, .nil⟩ ⟨rfl, rfl⟩) (Coe.agg (by (repeat (first | exact CoeL.nil | refine CoeL.cons Coe.rfl ?_ | refine CoeL.cons Coe.nil ?_)); done)) (⟨rfl, rfl⟩)
theorem print_fn : Sp Tryz.prog 36 [itA 1 2 [] 0 []] [] (Is (.tup [.val (.string ⟨#[45, 51]⟩), .val (.int .i64 0)])) := by
  refine Sp.enter Tryz.func36 rfl _ Tryz.ntmps36 rfl (fun w0 R0 => ?_)
  refine AW.seq ?_
  refine AW.region ?_
  refine AO.opB (O.box rfl rfl rfl rfl rfl) rfl rfl rfl ?_
  intro B1
  refine AO.op (O.assign rfl rfl) rfl rfl rfl ?_
  refine AO.op (O.assign rfl rfl) rfl rfl rfl ?_
  refine AO.nil ?_
  refine AQ.thenN ?_
  refine AW.seq ?_
  refine AW.seq ?_
  refine AW.region ?_
  (refine AO.op (O.loadK rfl rfl (by repeat (exact List.Mem.head _)) (by (dsimp only [List.set, List.cons_append, List.nil_append, List.take, List.drop]; done)) (by rfl)) rfl rfl rfl ?_)
  refine AO.op (O.call rfl Tryz.func77 rfl rfl rfl (validN_fn)) rfl rfl rfl ?_
  refine AO.op (O.not rfl rfl (by rfl)) rfl rfl rfl ?_
  refine AO.nil ?_
  refine AQ.thenN ?_
  refine AW.condF rfl ?_
  refine AW.skip ?_
  refine AQ.thenN ?_
  refine AW.seq ?_
  refine AW.region ?_
  (refine AO.op (O.loadK rfl rfl (by repeat (exact List.Mem.head _)) (by (dsimp only [List.set, List.cons_append, List.nil_append, List.take, List.drop]; done)) (by rfl)) rfl rfl rfl ?_)
  refine AO.op (O.call rfl Tryz.func78 rfl rfl rfl (putN_fn)) rfl rfl rfl ?_
  refine AO.op (O.convS rfl rfl (by rfl)) rfl rfl rfl ?_
  refine AO.op (O.assign rfl rfl) rfl rfl rfl ?_
  refine AO.op (O.assign rfl rfl) rfl rfl rfl ?_
  refine AO.nil ?_
  refine AQ.thenN ?_
  refine AW.ret ?_
  refine AQ.ret2 rfl rfl rfl ⟨_, List.nil_sublist _, .nil⟩ (⟨rfl, rfl⟩)
theorem parse_fn : SpK GN Tryz.prog 38 [.val (.string ⟨#[91, 49, 93]⟩)] [] (Is (.tup [itA 4 0 [] 1 (uintR 1), .val (.int .i64 0)])) := by
  have q1 : ((⟨#[]⟩ : ByteArray).toList != (⟨#[]⟩ : ByteArray).toList) = false := by decide +kernel
  have q2 : ((strOf [91, 49, 93]).toList != (⟨#[91, 49, 93]⟩ : ByteArray).toList) = false := by decide +kernel
  refine SpK.enter Tryz.func38 rfl _ Tryz.ntmps38 rfl (fun w0 R0 hK => ?_)
  refine AW.seq ?_
  refine AW.region ?_
  refine AO.opB (O.alloc rfl (by (dsimp only [zerosA, List.replicate, List.append, List.flatten, AV.cells, Value.cells, List.toList_toArray, List.map]; done)) (by rfl)) rfl rfl rfl ?_
  intro B1
  refine AO.op (O.assign rfl rfl) rfl rfl rfl ?_
  refine AO.nil ?_
  refine AQ.thenN ?_
  refine AW.seq ?_
  refine AW.region ?_
  refine AO.op (O.move rfl rfl) rfl rfl rfl ?_
  refine AO.op (O.build rfl rfl rfl (by rfl)) rfl rfl rfl ?_
  refine AO.opB (O.alloc rfl (by (dsimp only [zerosA, List.replicate, List.append, List.flatten, AV.cells, Value.cells, List.toList_toArray, List.map]; done)) (by rfl)) rfl rfl rfl ?_
  intro B2
  (refine AO.store (i := 0) rfl rfl rfl rfl rfl rfl (by rfl) (by rfl) (by rfl) (by (dsimp only [List.set, List.cons_append, List.nil_append, List.take, List.drop]; done)) (by (dsimp only [List.set, List.cons_append, List.nil_append, List.take, List.drop]; done)) ?_)
  refine AO.nil ?_
  refine AQ.thenN ?_
  refine AW.seq ?_
  refine AW.region ?_
  (refine AO.callK1n (i := 0) hK notFoot_nil rfl rfl Tryz.func80 rfl rfl rfl rfl rfl rfl (fun hB => item0_fn _ hB) (by (dsimp only [List.set, List.cons_append, List.nil_append, List.take, List.drop]; done)) ?_)
  refine AO.opB (O.alloc rfl (by (dsimp only [zerosA, List.replicate, List.append, List.flatten, AV.cells, Value.cells, List.toList_toArray, List.map]; done)) (by rfl)) rfl rfl rfl ?_
  intro B3
  (refine AO.store (i := 0) rfl rfl rfl rfl rfl rfl (by rfl) (by rfl) (by rfl) (by (dsimp only [List.set, List.cons_append, List.nil_append, List.take, List.drop]; done)) (by (dsimp only [List.set, List.cons_append, List.nil_append, List.take, List.drop]; done)) ?_)
  refine AO.nil ?_
  refine AQ.thenN ?_
  refine AW.seq ?_
  refine AW.seq ?_
  refine AW.region ?_
  refine AO.op (O.fieldAddr rfl rfl) rfl rfl rfl ?_
  refine AO.op (O.load rfl rfl (by repeat (first | exact List.Mem.head _ | refine List.Mem.tail _ ?_)) (by rfl)) rfl rfl rfl ?_
  refine AO.op (O.move rfl rfl) rfl rfl rfl ?_
  refine AO.op (O.fieldAddr rfl rfl) rfl rfl rfl ?_
  refine AO.op (O.load rfl rfl (by repeat (first | exact List.Mem.head _ | refine List.Mem.tail _ ?_)) (by rfl)) rfl rfl rfl ?_
  refine AO.op (O.neqS rfl rfl rfl (by assumption)) rfl rfl rfl ?_
  refine AO.op (O.pickF rfl rfl rfl) rfl rfl rfl ?_
  refine AO.op (O.move rfl rfl) rfl rfl rfl ?_
  (refine AO.op (O.loadK rfl rfl (by repeat (exact List.Mem.head _)) (by (dsimp only [List.set, List.cons_append, List.nil_append, List.take, List.drop]; done)) (by rfl)) rfl rfl rfl ?_)
  (refine AO.op (O.callC rfl Tryz.func77 rfl rfl rfl (validA_fn) (by (repeat (first | exact CoeL.nil | refine CoeL.cons Coe.rfl ?_ | refine CoeL.cons Coe.nil ?_ | refine CoeL.cons (Coe.agg ?_) ?_ | refine CoeL.cons (Coe.ro ?_) ?_)); done)) rfl rfl rfl ?_)
  refine AO.op (O.not rfl rfl (by rfl)) rfl rfl rfl ?_
  refine AO.op (O.pickF rfl rfl rfl) rfl rfl rfl ?_
  refine AO.nil ?_
  refine AQ.thenN ?_
  refine AW.condF rfl ?_
  refine AW.skip ?_
  refine AQ.thenN ?_
  refine AW.seq ?_
  refine AW.seq ?_
  refine AW.region ?_
  (refine AO.op (O.loadK rfl rfl (by repeat (exact List.Mem.head _)) (by (dsimp only [List.set, List.cons_append, List.nil_append, List.take, List.drop]; done)) (by rfl)) rfl rfl rfl ?_)
  (refine AO.op (O.callC rfl Tryz.func78 rfl rfl rfl (putA_fn) (by (repeat (first | exact CoeL.nil | refine CoeL.cons Coe.rfl ?_ | refine CoeL.cons Coe.nil ?_ | refine CoeL.cons (Coe.agg ?_) ?_ | refine CoeL.cons (Coe.ro ?_) ?_)); done)) rfl rfl rfl ?_)
  refine AO.op (O.convS rfl rfl (by rfl)) rfl rfl rfl ?_
  refine AO.op (O.move rfl rfl) rfl rfl rfl ?_
  refine AO.op (O.neqS rfl rfl rfl (by assumption)) rfl rfl rfl ?_
  refine AO.nil ?_
  refine AQ.thenN ?_
  refine AW.condF rfl ?_
  refine AW.skip ?_
  refine AQ.thenN ?_
  refine AW.seq ?_
  refine AW.region ?_
  (refine AO.op (O.loadK rfl rfl (by repeat (exact List.Mem.head _)) (by (dsimp only [List.set, List.cons_append, List.nil_append, List.take, List.drop]; done)) (by rfl)) rfl rfl rfl ?_)
  (refine AO.store (i := 2) rfl rfl rfl rfl rfl rfl (by rfl) (by rfl) (by rfl) (by (dsimp only [List.set, List.cons_append, List.nil_append, List.take, List.drop]; done)) (by (dsimp only [List.set, List.cons_append, List.nil_append, List.take, List.drop]; done)) ?_)
  refine AO.op (O.assign rfl rfl) rfl rfl rfl ?_
  refine AO.nil ?_
  refine AQ.thenN ?_
  refine AW.ret ?_
  refine FnQ.coe (AQ.retCT rfl rfl rfl (by repeat (first | exact List.Mem.head _ | refine List.Mem.tail _ ?_)) (by (dsimp only [List.set, List.cons_append, List.nil_append, List.take, List.drop]; done)) (by rfl) ⟨_, List.nil_sublist _, .nil⟩ ⟨rfl, rfl⟩) (Coe.tup (by (repeat (first | exact CoeL.nil | refine CoeL.cons Coe.rfl ?_ | refine CoeL.cons Coe.nil ?_ | refine CoeL.cons (Coe.agg ?_) ?_ | refine CoeL.cons (Coe.ro ?_) ?_)); done)) (⟨rfl, rfl⟩)
theorem awakeT_fn : SpK GN Tryz.prog 8 [] [] (Is (.val (.bool true))) := by
  have q1 : ((⟨#[45, 51]⟩ : ByteArray).toList == (⟨#[45, 51]⟩ : ByteArray).toList) = true := by decide +kernel
  refine SpK.enter Tryz.func8 rfl _ Tryz.ntmps8 rfl (fun w0 R0 hK => ?_)
  refine AW.seq ?_
  refine AW.region ?_
  refine AO.op (O.assign rfl rfl) rfl rfl rfl ?_
  refine AO.nil ?_
  refine AQ.thenN ?_
  refine AW.seq ?_
  refine AW.region ?_
  refine AO.op (O.call rfl Tryz.func37 rfl rfl rfl (intN_fn)) rfl rfl rfl ?_
  refine AO.op (O.call rfl Tryz.func36 rfl rfl rfl (print_fn)) rfl rfl rfl ?_
  refine AO.op (O.move rfl rfl) rfl rfl rfl ?_
  refine AO.op (O.extract rfl rfl rfl) rfl rfl rfl ?_
  refine AO.op (O.extract rfl rfl rfl) rfl rfl rfl ?_
  refine AO.op (O.assign rfl rfl) rfl rfl rfl ?_
  refine AO.op (O.assign rfl rfl) rfl rfl rfl ?_
  refine AO.nil ?_
  refine AQ.thenN ?_
  refine AW.seq ?_
  refine AW.region ?_
  refine AO.callK hK notFoot_nil rfl rfl Tryz.func38 rfl rfl rfl rfl rfl (parse_fn) ?_
  refine AO.op (O.move rfl rfl) rfl rfl rfl ?_
  refine AO.op (O.extract rfl rfl rfl) rfl rfl rfl ?_
  refine AO.op (O.extract rfl rfl rfl) rfl rfl rfl ?_
  refine AO.opB (O.alloc rfl (by (dsimp only [zerosA, List.replicate, List.append, List.flatten, AV.cells, Value.cells, List.toList_toArray, List.map]; done)) (by rfl)) rfl rfl rfl ?_
  intro B1
  (refine AO.store (i := 0) rfl rfl rfl rfl rfl rfl (by rfl) (by rfl) (by rfl) (by (dsimp only [List.set, List.cons_append, List.nil_append, List.take, List.drop]; done)) (by (dsimp only [List.set, List.cons_append, List.nil_append, List.take, List.drop]; done)) ?_)
  refine AO.op (O.assign rfl rfl) rfl rfl rfl ?_
  refine AO.nil ?_
  refine AQ.thenN ?_
  refine AW.seq ?_
  refine AW.region ?_
  refine AO.op (O.move rfl rfl) rfl rfl rfl ?_
  refine AO.op (O.eqlS rfl rfl rfl (by assumption)) rfl rfl rfl ?_
  refine AO.op (O.move rfl rfl) rfl rfl rfl ?_
  refine AO.op (O.move rfl rfl) rfl rfl rfl ?_
  refine AO.op (O.eql rfl rfl rfl (by exact beq_iff_eq.2 (by omega))) rfl rfl rfl ?_
  refine AO.op (O.pickT rfl rfl rfl) rfl rfl rfl ?_
  refine AO.op (O.move rfl rfl) rfl rfl rfl ?_
  refine AO.op (O.move rfl rfl) rfl rfl rfl ?_
  refine AO.op (O.eql rfl rfl rfl (by exact beq_iff_eq.2 (by omega))) rfl rfl rfl ?_
  refine AO.op (O.pickT rfl rfl rfl) rfl rfl rfl ?_
  refine AO.op (O.move rfl rfl) rfl rfl rfl ?_
  refine AO.op (O.fieldAddr rfl rfl) rfl rfl rfl ?_
  refine AO.op (O.load rfl rfl (by repeat (exact List.Mem.head _)) (by rfl)) rfl rfl rfl ?_
  refine AO.op (O.lenR rfl rfl) rfl rfl rfl ?_
  refine AO.op (O.eql rfl rfl rfl (by exact beq_iff_eq.2 (by omega))) rfl rfl rfl ?_
  refine AO.op (O.pickT rfl rfl rfl) rfl rfl rfl ?_
  refine AO.op (O.assign rfl rfl) rfl rfl rfl ?_
  refine AO.nil ?_
  refine AQ.thenN ?_
  refine AW.ret ?_
  refine AQ.ret1 rfl rfl ⟨_, List.nil_sublist _, .nil⟩ (⟨rfl, rfl⟩)
end Go.Proofs.YtoonnnifelnaiaaGreatDoor.By

namespace Go.Proofs.YtoonnnifelnaiaaGreatDoor.Dk
open Go.RowKit L A
set_option linter.unusedVariables false
set_option maxRecDepth 20000
set_option linter.unusedSimpArgs false
attribute [local irreducible] AW AQ AO

theorem left_fn (b : Nat) (l : List Int) (k : Nat) :
    Sp Tryz.prog 12 [ptr b] [deck b l k] (IsM (.val (.bool (decide (k < l.length)))) (deck b l k)) := by
  refine Sp.enter Tryz.func12 rfl _ Tryz.ntmps12 rfl (fun w0 R0 => ?_)
  refine AW.seq ?_
  refine AW.region ?_
  refine AO.op (O.assign rfl rfl) rfl rfl rfl ?_
  refine AO.nil ?_
  refine AQ.thenN ?_
  refine AW.seq ?_
  refine AW.regionD 11 (by kernel_rfl) (by kernel_rfl) ?_
  simp only [List.take_succ_cons, List.take_zero, List.drop_succ_cons, List.drop_zero]
  refine FA.op (O.move rfl rfl) rfl rfl rfl rfl ?_
  first | (refine FA.op (O.nilCheck rfl rfl) rfl rfl rfl rfl ?_) | (refine FA.op (O.nilCheckR rfl rfl) rfl rfl rfl rfl ?_)
  first | (refine FA.op (O.fieldAddrR rfl rfl) rfl rfl rfl rfl ?_) | (refine FA.op (O.fieldAddr rfl rfl) rfl rfl rfl rfl ?_)
  first | (refine FA.op (O.loadR rfl rfl (by first | rfl | assumption)) rfl rfl rfl rfl ?_) | (refine FA.op (O.load rfl rfl (by repeat (first | exact List.Mem.head _ | refine List.Mem.tail _ ?_)) (by first | rfl | assumption)) rfl rfl rfl rfl ?_)
  refine FA.op (O.move rfl rfl) rfl rfl rfl rfl ?_
  first | (refine FA.op (O.nilCheck rfl rfl) rfl rfl rfl rfl ?_) | (refine FA.op (O.nilCheckR rfl rfl) rfl rfl rfl rfl ?_)
  first | (refine FA.op (O.fieldAddrR rfl rfl) rfl rfl rfl rfl ?_) | (refine FA.op (O.fieldAddr rfl rfl) rfl rfl rfl rfl ?_)
  first | (refine FA.op (O.loadR rfl rfl (by first | rfl | assumption)) rfl rfl rfl rfl ?_) | (refine FA.op (O.load rfl rfl (by repeat (first | exact List.Mem.head _ | refine List.Mem.tail _ ?_)) (by first | rfl | assumption)) rfl rfl rfl rfl ?_)
  first | (refine FA.op (O.lenR rfl rfl) rfl rfl rfl rfl ?_) | (refine FA.op (O.lenV rfl rfl) rfl rfl rfl rfl ?_) | (refine FA.op (O.lenRow rfl rfl (by repeat (first | exact List.Mem.head _ | refine List.Mem.tail _ ?_))) rfl rfl rfl rfl ?_) | (refine FA.op (O.lenS rfl rfl) rfl rfl rfl rfl ?_)
  refine FA.op (O.lss rfl rfl rfl (by first | exact bTrue (by omega) | exact bFalse (by omega) | assumption | rfl)) rfl rfl rfl rfl ?_
  refine FA.op (O.assign rfl rfl) rfl rfl rfl rfl ?_
  refine FA.nil ?_
  simp only [chosen, List.nil_append, List.cons_append, List.append_nil]
  refine AO.nil ?_
  refine AQ.thenN ?_
  refine AW.ret ?_
  have e1 : decide ((k : Int) < (l.length : Int)) = decide (k < l.length) := by simp
  refine AQ.ret1 rfl rfl ⟨_, by repeat (first | exact List.Sublist.slnil | refine List.Sublist.cons_cons _ ?_ | refine List.Sublist.cons _ ?_), List.Perm.refl _⟩ (⟨congrArg (fun z => AV.val (.bool z)) e1, rfl⟩)
end Go.Proofs.YtoonnnifelnaiaaGreatDoor.Dk

namespace Go.Proofs.YtoonnnifelnaiaaGreatDoor.By
open Go.RowKit L A Dk
set_option linter.unusedVariables false
set_option maxRecDepth 20000
set_option linter.unusedSimpArgs false
attribute [local irreducible] AW AQ AO
theorem adv_in {l : List Int} {k : Nat} (h : k < l.length) : adv l k = k + 1 := if_pos h
theorem adv_ge (l : List Int) (k : Nat) : k ≤ adv l k := by unfold adv; split <;> omega
theorem fewT_fn (l : List Int) : Sp Tryz.prog 7 [roI l] [] (Is (.val (.bool (decide ((l.length : Int) ≤ 300))))) := by
  refine Sp.enter Tryz.func7 rfl _ Tryz.ntmps7 rfl (fun w0 R0 => ?_)
  refine AW.seq ?_
  refine AW.region ?_
  refine AO.op (O.assign rfl rfl) rfl rfl rfl ?_
  refine AO.nil ?_
  refine AQ.thenN ?_
  refine AW.seq ?_
  refine AW.region ?_
  refine AO.op (O.move rfl rfl) rfl rfl rfl ?_
  first | (refine AO.op (O.lenR rfl rfl) rfl rfl rfl ?_) | (refine AO.op (O.lenV rfl rfl) rfl rfl rfl ?_) | (refine AO.op (O.lenRow rfl rfl (by repeat (first | exact List.Mem.head _ | refine List.Mem.tail _ ?_))) rfl rfl rfl ?_) | (refine AO.op (O.lenS rfl rfl) rfl rfl rfl ?_)
  refine AO.op (O.leq rfl rfl rfl (by first | exact bTrue (by omega) | exact bFalse (by omega) | assumption | rfl)) rfl rfl rfl ?_
  refine AO.op (O.assign rfl rfl) rfl rfl rfl ?_
  refine AO.nil ?_
  refine AQ.thenN ?_
  refine AW.ret ?_
  refine AQ.ret1 rfl rfl ⟨_, List.nil_sublist _, .nil⟩ (⟨rfl, rfl⟩)
end Go.Proofs.YtoonnnifelnaiaaGreatDoor.By

namespace Go.Proofs.YtoonnnifelnaiaaGreatDoor.By
open Go.RowKit L A
set_option linter.unusedVariables false
set_option maxRecDepth 20000
set_option linter.unusedSimpArgs false
attribute [local irreducible] AW AQ AO
set_option maxHeartbeats 4000000 in
theorem reply_fn (m : Msg) (code : Int) (os : List Opt) (pay : List UInt8) (hsm : SmM ⟨1, code, 0, m.tok, os, pay⟩) :
    Sp Tryz.prog 22 [aggM m, .val (.int .i64 code), roO os, roB pay] [] (Is (resM (replyR m code os pay))) := by
  have hat := fun k => SmM.at hsm (k := k)
  obtain ⟨g1, g2, g3, -⟩ := hsm
  simp only at g1 g2 g3 hat
  refine Sp.enter Tryz.func22 rfl _ Tryz.ntmps22 rfl (fun w0 R0 => ?_)
  refine AW.seq ?_
  refine AW.region ?_
  refine AO.opB (O.box rfl rfl rfl rfl rfl) rfl rfl rfl ?_
  intro B1
  refine AO.opB (O.alloc rfl (by (dsimp only [zerosA, List.replicate, List.append, List.flatten, AV.cells, Value.cells, List.toList_toArray, List.map]; done)) (by rfl)) rfl rfl rfl ?_
  intro B2
  refine AO.op (O.assign rfl rfl) rfl rfl rfl ?_
  refine AO.nil ?_
  refine AQ.thenN ?_
  refine AW.seq ?_
  refine AW.seq ?_
  refine AW.region ?_
  (refine AO.op (O.loadK rfl rfl (by repeat (first | exact List.Mem.head _ | refine List.Mem.tail _ ?_)) (by (dsimp only [List.set, List.cons_append, List.nil_append, List.take, List.drop]; done)) (by rfl)) rfl rfl rfl ?_)
  refine AO.op (O.call rfl Tryz.func53 rfl rfl rfl (valid_fn m)) rfl rfl rfl ?_
  refine AO.op (O.not rfl rfl (by rfl)) rfl rfl rfl ?_
  refine AO.op (O.move rfl rfl) rfl rfl rfl ?_
  refine AO.opG rfl rfl rfl (fun hp => O.fieldAddr rfl rfl) ?_
  refine AO.opG rfl rfl rfl (fun hp => OpW.force 17 rfl (by exact hp) (O.load rfl rfl (by repeat (first | exact List.Mem.head _ | refine List.Mem.tail _ ?_)) (by rfl))) ?_
  refine AO.opG rfl rfl rfl (fun hp => OpW.force 18 rfl (by exact hp) (O.call rfl Tryz.func58 rfl rfl rfl (req_fn m.code))) ?_
  refine AO.opG rfl rfl rfl (fun hp => OpW.force 19 rfl (by exact hp) (O.not rfl rfl (by rfl))) ?_
  refine AO.op (O.pickOr rfl rfl rfl rfl (fun h => by exact congrArg (fun b => !b) h)) rfl rfl rfl ?_
  refine AO.nil ?_
  refine AQ.thenN ?_
  refine AW.split rfl (fun h => ?_) (fun h => ?_) <;> (try simp only [decide_eq_true_eq, decide_eq_false_iff_not, beq_iff_eq, beq_eq_false_iff_ne, bne_iff_ne, bne_eq_false_iff_eq, Bool.not_eq_true', Bool.not_eq_false', Bool.not_eq_true, Bool.not_eq_false, ne_eq, Int.not_lt, Int.not_le, Bool.and_eq_true, Bool.or_eq_true, Bool.or_eq_false_iff, Bool.and_eq_false_imp, strOf_toList, Decidable.not_not] at h)
  · skip
    have e : replyR m code os pay = (Msg.none, 1) := by
      unfold replyR
      rw [if_neg]
      rcases h with h | h
      · exact fun h9 => h h9.1
      · simp [h]
    refine AW.seq ?_
    refine AW.region ?_
    refine AO.op (O.build rfl rfl rfl (by rfl)) rfl rfl rfl ?_
    (refine AO.store (i := 0) rfl rfl rfl rfl rfl rfl (by rfl) (by rfl) (by rfl) (by (dsimp only [List.set, List.cons_append, List.nil_append, List.take, List.drop]; done)) (by (dsimp only [List.set, List.cons_append, List.nil_append, List.take, List.drop]; done)) ?_)
    refine AO.op (O.assign rfl rfl) rfl rfl rfl ?_
    refine AO.nil ?_
    refine AQ.thenN ?_
    refine AW.ret ?_
    refine AQ.thenR ?_
    refine FnQ.coe (AQ.retCT rfl rfl rfl (by repeat (exact List.Mem.head _)) (by (dsimp only [List.set, List.cons_append, List.nil_append, List.take, List.drop]; done)) (by rfl) ⟨_, List.nil_sublist _, .nil⟩ ⟨rfl, rfl⟩) (Coe.tup (by (repeat (first | exact CoeL.nil | refine CoeL.cons Coe.rfl ?_ | refine CoeL.cons Coe.nil ?_ | refine CoeL.cons (Coe.agg ?_) ?_)); done)) (retM e rfl)
  · skip
    refine AW.skip ?_
    refine AQ.thenN ?_
    refine AW.seq ?_
    refine AW.region ?_
    refine AO.op (O.move rfl rfl) rfl rfl rfl ?_
    refine AO.op (O.fieldAddr rfl rfl) rfl rfl rfl ?_
    refine AO.op (O.load rfl rfl (by repeat (first | exact List.Mem.head _ | refine List.Mem.tail _ ?_)) (by rfl)) rfl rfl rfl ?_
    refine AO.op (O.call rfl Tryz.func49 rfl rfl rfl (clone_fn _ (by assumption))) rfl rfl rfl ?_
    refine AO.op (O.move rfl rfl) rfl rfl rfl ?_
    refine AO.op (O.call rfl Tryz.func49 rfl rfl rfl (clone_fn _ (by assumption))) rfl rfl rfl ?_
    refine AO.op (O.build rfl rfl rfl (by rfl)) rfl rfl rfl ?_
    refine AO.opB (O.alloc rfl (by (dsimp only [zerosA, List.replicate, List.append, List.flatten, AV.cells, Value.cells, List.toList_toArray, List.map]; done)) (by rfl)) rfl rfl rfl ?_
    intro B3
    (refine AO.store (i := 0) rfl rfl rfl rfl rfl rfl (by rfl) (by rfl) (by rfl) (by (dsimp only [List.set, List.cons_append, List.nil_append, List.take, List.drop]; done)) (by (dsimp only [List.set, List.cons_append, List.nil_append, List.take, List.drop]; done)) ?_)
    refine AO.nil ?_
    refine AQ.thenN ?_
    refine AW.seq ?_
    refine AW.seq ?_
    refine AW.region ?_
    refine AO.op (O.fieldAddr rfl rfl) rfl rfl rfl ?_
    refine AO.op (O.load rfl rfl (by repeat (first | exact List.Mem.head _ | refine List.Mem.tail _ ?_)) (by rfl)) rfl rfl rfl ?_
    refine AO.op (O.eql rfl rfl rfl (by rfl)) rfl rfl rfl ?_
    refine AO.nil ?_
    refine AQ.thenN ?_
    refine AW.joinK (True) [(1, _), (2, _), (8, _), (10, _)] [] [.blk B3 41 6 [.val (.int .i64 (replyM m code os pay).ty), .val (.int .i64 code), .val (.int .i64 (replyM m code os pay).id), roB m.tok, .val (.slice none 0 0), roB pay], .blk B2 41 6 [.val (.int .i64 0), .val (.int .i64 0), .val (.int .i64 0), .val (.slice none 0 0), .val (.slice none 0 0), .val (.slice none 0 0)]] rfl (by repeat (first | exact envNil | refine envCons rfl ?_)) (fun hb => ?_) (fun hb => ?_) (fun hj => ?_) <;> try (try simp only [decide_eq_true_eq, decide_eq_false_iff_not, beq_iff_eq, beq_eq_false_iff_ne, bne_iff_ne, bne_eq_false_iff_eq, Bool.not_eq_true', Bool.not_eq_false', Bool.not_eq_true, Bool.not_eq_false, ne_eq, Int.not_lt, Int.not_le, Bool.and_eq_true, Bool.or_eq_true, Bool.or_eq_false_iff, Bool.and_eq_false_imp, strOf_toList, Decidable.not_not] at hb)
    · skip
      have hz : m.ty = 0 := by simpa using hb
      rw [show (replyM m code os pay).ty = 2 from if_pos hz, show (replyM m code os pay).id = m.id from if_pos hz]
      refine AW.regionM [(0, false), (1, false), (2, false), (3, true), (4, false), (5, true)] (by kernel_rfl) (by kernel_rfl) (by exact (by exact splitBlk 10 0 rfl rfl splitNil)) ?_
      dsimp only [List.eraseIdx]
      refine AM.op rfl (O.fieldAddr rfl rfl) rfl rfl rfl ?_
      refine AM.op rfl (O.load rfl rfl (by repeat (first | exact List.Mem.head _ | refine List.Mem.tail _ ?_)) (by rfl)) rfl rfl rfl ?_
      refine AM.op rfl (O.fieldAddr rfl rfl) rfl rfl rfl ?_
      refine AM.main _ rfl (fun w0 R0 => ?_)
      (refine AO.store (i := 0) rfl rfl rfl rfl rfl rfl (by rfl) (by rfl) (by rfl) (by (dsimp only [List.set, List.cons_append, List.nil_append, List.take, List.drop]; done)) (by (dsimp only [List.set, List.cons_append, List.nil_append, List.take, List.drop]; done)) ?_)
      refine AM.okN ?_
      dsimp only [putE]
      refine AM.op rfl (O.fieldAddr rfl rfl) rfl rfl rfl ?_
      refine AM.main _ rfl (fun w0 R0 => ?_)
      (refine AO.store (i := 0) rfl rfl rfl rfl rfl rfl (by rfl) (by rfl) (by rfl) (by (dsimp only [List.set, List.cons_append, List.nil_append, List.take, List.drop]; done)) (by (dsimp only [List.set, List.cons_append, List.nil_append, List.take, List.drop]; done)) ?_)
      refine AM.okN ?_
      dsimp only [putE]
      refine AM.nil ?_
      dsimp only [List.cons_append, List.nil_append]
      refine AQ.midK0 (trivial) (by repeat (first | exact envNil | refine envCons rfl ?_)) (by repeat (first | exact subPnil | refine subPcons 0 rfl ?_))
    · skip
      have hz : ¬m.ty = 0 := by simpa using hb
      rw [show (replyM m code os pay).ty = 1 from if_neg hz, show (replyM m code os pay).id = 0 from if_neg hz]
      refine AW.skip ?_
      refine AQ.midK (trivial) (by repeat (first | exact envNil | refine envCons rfl ?_)) (by repeat (exact envNil)) (by repeat (first | exact subPnil | refine subPcons 0 rfl ?_))
    · dsimp only [List.cons_append, List.nil_append]
      refine AQ.thenN ?_
      refine AW.seq ?_
      refine AW.seq ?_
      refine AW.region ?_
      refine AO.op (O.move rfl rfl) rfl rfl rfl ?_
      refine AO.op (O.lenR rfl rfl) rfl rfl rfl ?_
      refine AO.op (O.move rfl rfl) rfl rfl rfl ?_
      refine AO.nil ?_
      refine AQ.thenN ?_
      refine AW.block ?_
      refine AW.g ?_
      refine G.nilRow 74 2 ?_
      refine AW.u ?_
      refine AW.loopK [(1, _), (8, _), (10, _), (37, _), (38, _)] (fun nn E H => ∃ (k : Nat) (V : Value), (k ≤ os.length) ∧ (V.oneCell' = true) ∧ nn = os.length - k ∧ E = [(39, .val (.int .i64 (k : Int)))] ∧ H = [.row V 74 2 k (optsA (os.take k)), .blk B3 41 6 [.val (.int .i64 (replyM m code os pay).ty), .val (.int .i64 code), .val (.int .i64 (replyM m code os pay).id), roB m.tok, .val V, roB pay], .blk B2 41 6 [.val (.int .i64 0), .val (.int .i64 0), .val (.int .i64 0), .val (.slice none 0 0), .val (.slice none 0 0), .val (.slice none 0 0)]]) _ (⟨0, _, by omega, rfl, rfl, rfl, rfl⟩) (by repeat (first | exact envNil | refine envCons rfl ?_)) (by repeat (first | exact envNil | refine envCons rfl ?_)) (by repeat (first | exact subPnil | refine subPcons 0 rfl ?_)) ?_
      rintro nn E H ⟨k, V, h4, hV, rfl, rfl, rfl⟩
      dsimp only [List.cons_append, List.nil_append]
      refine AW.seq ?_
      refine AW.region ?_
      refine AO.op (O.lss rfl rfl rfl (by rfl)) rfl rfl rfl ?_
      refine AO.nil ?_
      refine AQ.thenN ?_
      refine AW.seq ?_
      refine AW.split rfl (fun h5 => ?_) (fun h5 => ?_) <;> (try simp only [decide_eq_true_eq, decide_eq_false_iff_not, beq_iff_eq, beq_eq_false_iff_ne, bne_iff_ne, bne_eq_false_iff_eq, Bool.not_eq_true', Bool.not_eq_false', Bool.not_eq_true, Bool.not_eq_false, ne_eq, Int.not_lt, Int.not_le, Bool.and_eq_true, Bool.or_eq_true, Bool.or_eq_false_iff, Bool.and_eq_false_imp, strOf_toList, Decidable.not_not] at h5)
      · skip
        have hk : k < os.length := by omega
        have hv := hat k hk
        have hsc : optsA (os.take (k + 1)) = optsA (os.take k) ++ [.val (.int .i64 (oat os k).num), roB (oat os k).val] := by rw [take_snoc Opt.none hk, optsA_snoc]
        refine AW.skip ?_
        refine AQ.thenN ?_
        refine AW.seq ?_
        refine AW.block ?_
        refine AW.seq ?_
        refine AW.region ?_
        refine AO.op (O.idxR rfl rfl rfl ⟨(by omega), (by omega)⟩) rfl rfl rfl ?_
        refine AO.op (O.loadRK rfl rfl (by exact getO (by omega) (by omega)) (by rfl)) rfl rfl rfl ?_
        refine AO.opB (O.alloc rfl (by (dsimp only [zerosA, List.replicate, List.append, List.flatten, AV.cells, Value.cells, List.toList_toArray, List.map]; done)) (by rfl)) rfl rfl rfl ?_
        intro B4
        (refine AO.store (i := 0) rfl rfl rfl rfl rfl rfl (by rfl) (by rfl) (by rfl) (by (dsimp only [List.set, List.cons_append, List.nil_append, List.take, List.drop]; done)) (by (dsimp only [List.set, List.cons_append, List.nil_append, List.take, List.drop]; done)) ?_)
        refine AO.nil ?_
        refine AQ.thenN ?_
        refine AW.regionD 9 (by kernel_rfl) (by kernel_rfl) ?_
        simp only [List.take_succ_cons, List.take_zero, List.drop_succ_cons, List.drop_zero]
        refine FA.op (O.fieldAddr rfl rfl) rfl rfl rfl rfl ?_
        refine FA.op (O.load rfl rfl (by repeat (first | exact List.Mem.head _ | refine List.Mem.tail _ ?_)) (by rfl)) rfl rfl rfl rfl ?_
        refine FA.op (O.fieldAddr rfl rfl) rfl rfl rfl rfl ?_
        refine FA.op (O.load rfl rfl (by repeat (exact List.Mem.head _)) (by rfl)) rfl rfl rfl rfl ?_
        refine FA.op (O.fieldAddr rfl rfl) rfl rfl rfl rfl ?_
        refine FA.op (O.load rfl rfl (by repeat (exact List.Mem.head _)) (by rfl)) rfl rfl rfl rfl ?_
        refine FA.op (O.call rfl Tryz.func49 rfl rfl rfl (clone_fn _ (by assumption))) rfl rfl rfl rfl ?_
        refine FA.op (O.build rfl rfl rfl (by rfl)) rfl rfl rfl rfl ?_
        refine FA.op (OpW.frz (O.buildSlice rfl rfl rfl (by rfl) (by rfl) (by rfl) (by rfl)) (by (unfold maxLen; omega))) rfl rfl rfl rfl ?_
        refine FA.nil ?_
        simp only [chosen, List.nil_append, List.cons_append, List.append_nil]
        (refine AO.append' (i := 1) rfl rfl rfl rfl (by rfl) (by rfl) rfl rfl rfl (by exact SrcA.ro TyD.ax (by rfl) (Nat.le_of_ble_eq_true rfl)) (by rfl) (by (unfold maxLen; omega)) (by omega) (by (dsimp only [List.set, List.cons_append, List.nil_append, List.take, List.drop]; done)) (fun _ => by (dsimp only [List.set]; done)) ?_)
        intro V5 hV5
        refine AO.op (O.fieldAddr rfl rfl) rfl rfl rfl ?_
        (refine AO.store (i := 2) rfl rfl rfl rfl rfl rfl (by (simp [AV.cells, AV.one, *]; done)) (by rfl) (by rfl) (by (dsimp only [List.set, List.cons_append, List.nil_append, List.take, List.drop]; done)) (by (dsimp only [List.set, List.cons_append, List.nil_append, List.take, List.drop]; done)) ?_)
        refine AO.nil ?_
        refine AQ.blockN ?_
        refine AQ.thenN ?_
        refine AW.region ?_
        refine AO.op (O.add rfl rfl rfl (by exact wI64 (by omega))) rfl rfl rfl ?_
        refine AO.op (O.move rfl rfl) rfl rfl rfl ?_
        refine AO.nil ?_
        refine AQ.loopKN _ _ _ (by omega) (⟨k + 1, _, by omega, ‹_›, rfl, rfl, by rw [hsc]⟩) (by repeat (first | exact envNil | refine envCons rfl ?_)) (by repeat (first | exact envNil | refine envCons rfl ?_)) (by repeat (first | exact subPnil | refine subPcons 1 rfl ?_))
      · skip
        obtain rfl : k = os.length := by omega
        rw [List.take_length]
        refine AW.g ?_
        refine G.freezeCell 0 0 4 rfl rfl rfl ?_
        refine AW.u ?_
        refine AW.exit ?_
        refine AQ.thenX ?_
        refine AQ.loopX ?_
        refine AQ.blockX rfl ?_
        refine AQ.thenN ?_
        refine AW.seq ?_
        refine AW.seq ?_
        refine AW.region ?_
        refine AO.op (O.move rfl rfl) rfl rfl rfl ?_
        refine AO.op (O.call rfl Tryz.func59 rfl rfl rfl (resp_fn code)) rfl rfl rfl ?_
        refine AO.op (O.not rfl rfl (by rfl)) rfl rfl rfl ?_
        refine AO.op (O.move rfl rfl) rfl rfl rfl ?_
        (refine AO.opG rfl rfl rfl (fun hp => O.loadK rfl rfl (by repeat (exact List.Mem.head _)) (by (dsimp only [List.set, List.cons_append, List.nil_append, List.take, List.drop]; done)) (by rfl)) ?_)
        refine AO.opG rfl rfl rfl (fun hp => OpW.force 59 rfl (by exact hp) (O.call rfl Tryz.func53 rfl rfl rfl (valid_fn (replyM m code os pay)))) ?_
        refine AO.opG rfl rfl rfl (fun hp => OpW.force 60 rfl (by exact hp) (O.not rfl rfl (by rfl))) ?_
        refine AO.op (O.pickOr rfl rfl rfl rfl (fun h => by exact congrArg (fun b => !b) h)) rfl rfl rfl ?_
        refine AO.nil ?_
        refine AQ.thenN ?_
        refine AW.split rfl (fun h2 => ?_) (fun h2 => ?_) <;> (try simp only [decide_eq_true_eq, decide_eq_false_iff_not, beq_iff_eq, beq_eq_false_iff_ne, bne_iff_ne, bne_eq_false_iff_eq, Bool.not_eq_true', Bool.not_eq_false', Bool.not_eq_true, Bool.not_eq_false, ne_eq, Int.not_lt, Int.not_le, Bool.and_eq_true, Bool.or_eq_true, Bool.or_eq_false_iff, Bool.and_eq_false_imp, strOf_toList, Decidable.not_not] at h2)
        · skip
          have e : replyR m code os pay = (Msg.none, 4) := by
            unfold replyR
            rw [if_pos h, if_neg]
            rcases h2 with h2 | h2
            · simp [h2]
            · exact fun h9 => h2 h9.2
          refine AW.seq ?_
          refine AW.region ?_
          refine AO.op (O.build rfl rfl rfl (by rfl)) rfl rfl rfl ?_
          (refine AO.store (i := 1) rfl rfl rfl rfl rfl rfl (by rfl) (by rfl) (by rfl) (by (dsimp only [List.set, List.cons_append, List.nil_append, List.take, List.drop]; done)) (by (dsimp only [List.set, List.cons_append, List.nil_append, List.take, List.drop]; done)) ?_)
          refine AO.op (O.assign rfl rfl) rfl rfl rfl ?_
          refine AO.nil ?_
          refine AQ.thenN ?_
          refine AW.ret ?_
          refine AQ.thenR ?_
          refine FnQ.coe (AQ.retCT rfl rfl rfl (by repeat (first | exact List.Mem.head _ | refine List.Mem.tail _ ?_)) (by (dsimp only [List.set, List.cons_append, List.nil_append, List.take, List.drop]; done)) (by rfl) ⟨_, List.nil_sublist _, .nil⟩ ⟨rfl, rfl⟩) (Coe.tup (by (repeat (first | exact CoeL.nil | refine CoeL.cons Coe.rfl ?_ | refine CoeL.cons Coe.nil ?_ | refine CoeL.cons (Coe.agg ?_) ?_)); done)) (retM e rfl)
        · skip
          have e : replyR m code os pay = (replyM m code os pay, 0) := by
            unfold replyR
            rw [if_pos h, if_pos h2]
          refine AW.skip ?_
          refine AQ.thenN ?_
          refine AW.seq ?_
          refine AW.region ?_
          (refine AO.op (O.loadK rfl rfl (by repeat (exact List.Mem.head _)) (by (dsimp only [List.set, List.cons_append, List.nil_append, List.take, List.drop]; done)) (by rfl)) rfl rfl rfl ?_)
          (refine AO.store (i := 1) rfl rfl rfl rfl rfl rfl (by rfl) (by rfl) (by rfl) (by (dsimp only [List.set, List.cons_append, List.nil_append, List.take, List.drop]; done)) (by (dsimp only [List.set, List.cons_append, List.nil_append, List.take, List.drop]; done)) ?_)
          refine AO.op (O.assign rfl rfl) rfl rfl rfl ?_
          refine AO.nil ?_
          refine AQ.thenN ?_
          refine AW.ret ?_
          refine FnQ.coe (AQ.retCT rfl rfl rfl (by repeat (first | exact List.Mem.head _ | refine List.Mem.tail _ ?_)) (by (dsimp only [List.set, List.cons_append, List.nil_append, List.take, List.drop]; done)) (by rfl) ⟨_, List.nil_sublist _, .nil⟩ ⟨rfl, rfl⟩) (Coe.tup (by (repeat (first | exact CoeL.nil | refine CoeL.cons Coe.rfl ?_)); done)) (retM e rfl)
end Go.Proofs.YtoonnnifelnaiaaGreatDoor.By

namespace Go.Proofs.YtoonnnifelnaiaaGreatDoor.A
open Go.RowKit L
set_option linter.unusedVariables false
set_option maxRecDepth 20000
set_option linter.unusedSimpArgs false

section
variable {P : Program} {ops : Array Oper} {N : Nat}
def alAt (als : List Al) (i : Nat) : Option Al := als.find? fun al => Nat.beq al.i i
def isAl (als : List Al) (i : Nat) : Bool := (alAt als i).isSome
theorem alAt_mem {als : List Al} (hn : (als.map Al.i).Nodup) {al : Al} (h : al ∈ als) : alAt als al.i = some al := by
  induction als with
  | nil => cases h
  | cons a r ih =>
    rw [List.map_cons, List.nodup_cons] at hn
    unfold alAt
    rw [List.find?_cons]
    rcases List.mem_cons.1 h with rfl | h
    · simp
    · have hne : Nat.beq a.i al.i = false := by
        cases hb : Nat.beq a.i al.i with
        | false => rfl
        | true => exact absurd (List.mem_map.2 ⟨al, h, (Nat.eq_of_beq_eq_true hb).symm⟩) hn.1
      rw [hne]; exact ih hn.2 h
def upd (ea : Nat → Option Nat) (i : Nat) (v : Option Nat) : Nat → Option Nat := fun k => if k = i then v else ea k
theorem upd_same (ea : Nat → Option Nat) (i : Nat) (v : Option Nat) : upd ea i v i = v := if_pos rfl
theorem upd_other (ea : Nat → Option Nat) {i k : Nat} (v : Option Nat) (h : k ≠ i) : upd ea i v k = ea k := if_neg h
def early (als : List Al) (ea : Nat → Option Nat) : List HE := als.flatMap fun al => al.hs (ea al.i)
theorem early_congr {als : List Al} {ea ea' : Nat → Option Nat} (h : ∀ al ∈ als, ea al.i = ea' al.i) : early als ea = early als ea' := by
  induction als with
  | nil => rfl
  | cons a r ih =>
    unfold early at ih ⊢
    rw [List.flatMap_cons, List.flatMap_cons, h a (List.mem_cons_self ..), ih fun al hal => h al (List.mem_cons_of_mem _ hal)]
theorem early_set {als : List Al} (hn : (als.map Al.i).Nodup) {al : Al} (hm : al ∈ als) {ea : Nat → Option Nat} (b : Nat) (h : ea al.i = none) : (early als (upd ea al.i (some b))).Perm (al.he b :: early als ea) := by
  induction als with
  | nil => cases hm
  | cons a r ih =>
    rw [List.map_cons, List.nodup_cons] at hn
    rcases List.mem_cons.1 hm with rfl | hm
    · have e : early r (upd ea al.i (some b)) = early r ea := early_congr fun x hx => upd_other _ _ fun e => hn.1 (List.mem_map.2 ⟨x, hx, e⟩)
      show (al.hs (upd ea al.i (some b) al.i) ++ early r (upd ea al.i (some b))).Perm (al.he b :: (al.hs (ea al.i) ++ early r ea))
      rw [upd_same, h, e]; exact .refl _
    · have hne : a.i ≠ al.i := fun e => hn.1 (List.mem_map.2 ⟨al, hm, e.symm⟩)
      show (a.hs (upd ea al.i (some b) a.i) ++ early r (upd ea al.i (some b))).Perm (al.he b :: (a.hs (ea a.i) ++ early r ea))
      rw [upd_other _ _ hne]
      exact ((ih hn.2 hm).append_left _).trans List.perm_middle
theorem early_clear {als : List Al} (hn : (als.map Al.i).Nodup) {al : Al} (hm : al ∈ als) {ea : Nat → Option Nat} {b : Nat} (h : ea al.i = some b) : (early als ea).Perm (al.he b :: early als (upd ea al.i none)) := by
  have e : ea = upd (upd ea al.i none) al.i (some b) := by
    funext k
    by_cases hk : k = al.i
    · subst hk; rw [upd_same]; exact h
    · rw [upd_other _ _ hk, upd_other _ _ hk]
  have := early_set hn hm (ea := upd ea al.i none) b (upd_same _ _ _)
  rwa [← e] at this
def AB (P : Program) (N : Nat) (ops : Array Oper) (als : List Al) (Hs : List HE) (K : Env → List HE → Prop) : List (Nat × Bool) → Env → List HE → Prop
  | [], E, H => K E H
  | (i, true) :: r, E, H => match alAt als i with
    | some al => ∀ b, AB P N ops als Hs K r ((al.d, .val (.pointer (some ⟨b, 0, none⟩))) :: E) (al.he b :: H)
    | none => ∃ o, ops[i]? = some o ∧ ∀ w0 R0, AO ⟨w0, footOf H, R0, N⟩ P ops (QS ⟨w0, footOf H, R0, N⟩ o.dst (fun v H' => AB P N ops als Hs K r (putE o.dst v E) H')) [o] (rst E (o.looksAt ops)) H
  | (i, false) :: r, E, H => ∃ o d v, ops[i]? = some o ∧ o.dst = some d ∧ d < N ∧ OpF P N ops o (rst E (o.looksAt ops)) Hs (Is v) ∧ AB P N ops als Hs K r ((d, v) :: E) H

/-- One operation ahead of another. -/
def ordPairB (ops : Array Oper) (ia : Nat → Bool) (an : List (List Nat)) (i : Nat) (b : Bool) (j : Nat) (c : Bool) : Bool :=
  match ops[i]?, ops[j]? with
  | some oi, some oj =>
    let waits := oj.after.any fun e => Region.binds .any e && e.on == i
    let anc := (an.getD j []).contains i
    (i != j) && (!b || anc || ia j) &&
    (match oj.dst with
      | some d => bif c && !ia j then (!((oi.looksAt ops).contains d || oi.dst == some d)) || anc else !(oi.looksAt ops).contains d && oi.dst != some d
      | none => c && !ia j) &&
    (match oi.dst with
      | some d => !(oj.looksAt ops).contains d || waits
      | none => true)
  | _, _ => false
def ordPairsB (ops : Array Oper) (ia : Nat → Bool) (an : List (List Nat)) : List (Nat × Bool) → Bool
  | [] => true
  | (i, b) :: r => (b || (match ops[i]? with | some o => (match o.dst with | some d => !(o.looksAt ops).contains d | none => false) | none => false)) && r.all (fun q => ordPairB ops ia an i b q.1 q.2) && ordPairsB ops ia an r
def ordOkB (ops : Array Oper) (ia : Nat → Bool) (ord : List (Nat × Bool)) : Bool :=
  ((List.range ops.size).all fun i => (ord.map Prod.fst).contains i) && (ord.all fun q => decide (q.1 < ops.size)) &&
  ((List.range ops.size).all fun i => (ops[i]?).all fun o => o.after.all fun e => !Region.binds .any e || decide (e.on < i)) && (ord.all fun q => !ia q.1 || q.2) && ordPairsB ops ia (ancs ops.toList []) ord

theorem ordPairsB_app {ia : Nat → Bool} {an : List (List Nat)} : ∀ {pre r : List (Nat × Bool)}, ordPairsB ops ia an (pre ++ r) = true → ordPairsB ops ia an r = true ∧ ∀ q ∈ pre, ∀ s ∈ r, ordPairB ops ia an q.1 q.2 s.1 s.2 = true
  | [], r, h => ⟨h, fun q hq => by cases hq⟩
  | (i, b) :: pre, r, h => by
    rw [List.cons_append, ordPairsB] at h
    simp only [Bool.and_eq_true, List.all_eq_true] at h
    obtain ⟨h1, h2⟩ := ordPairsB_app h.2
    refine ⟨h1, fun q hq s hs => ?_⟩
    rcases List.mem_cons.1 hq with rfl | hq
    · exact h.1.2 s (List.mem_append_right _ hs)
    · exact h2 q hq s hs

structure PairOkB (ops : Array Oper) (ia : Nat → Bool) (an : List (List Nat)) (i : Nat) (b : Bool) (oi : Oper) (j : Nat) (c : Bool) (oj : Oper) : Prop where
  ne : i ≠ j
  main : b = true → ia j = false → i ∈ an.getD j []
  flt : c = false ∨ ia j = true → ∃ d, oj.dst = some d ∧ d ∉ oi.looksAt ops ∧ oi.dst ≠ some d
  mn : c = true → ia j = false → ∀ d, oj.dst = some d → (d ∈ oi.looksAt ops ∨ oi.dst = some d) → i ∈ an.getD j []
  reads : ∀ d, oi.dst = some d → d ∈ oj.looksAt ops → ∃ e ∈ oj.after, Region.binds .any e = true ∧ e.on = i
theorem pairOkB {ia : Nat → Bool} {an : List (List Nat)} {i j : Nat} {b c : Bool} {oi oj : Oper} (h : ordPairB ops ia an i b j c = true) (hi : ops[i]? = some oi) (hj : ops[j]? = some oj) : PairOkB ops ia an i b oi j c oj := by
  unfold ordPairB at h
  rw [hi, hj] at h
  simp only [Bool.and_eq_true, bne_iff_ne, ne_eq] at h
  obtain ⟨⟨⟨h1, h2⟩, h3⟩, h4⟩ := h
  refine ⟨h1, fun hb hj => ?_, fun hc => ?_, fun hc hj d hd hm => ?_, fun d hd hm => ?_⟩
  · subst hb; simpa [hj] using h2
  · have hcj : (c && !ia j) = false := by rcases hc with hc | hc <;> simp [hc]
    cases hd : oj.dst with
    | none => rw [hd] at h3; simp only [hcj] at h3; cases h3
    | some d =>
      rw [hd] at h3
      simp only [hcj, cond_false] at h3
      simp at h3
      exact ⟨d, rfl, h3.1, h3.2⟩
  · subst hc
    have hcj : (true && !ia j) = true := by simp [hj]
    rw [hd] at h3
    simp only [hcj, cond_true] at h3
    simp at h3
    rcases h3 with h3 | h3
    · rcases hm with hm | hm
      · exact absurd hm h3.1
      · exact absurd hm h3.2
    · exact h3
  · rw [hd] at h4
    simp only [Bool.or_eq_true, Bool.not_eq_true', List.contains_eq_mem, decide_eq_false_iff_not] at h4
    rcases h4 with h4 | h4
    · exact absurd hm h4
    · obtain ⟨x, hx, hx2⟩ := any_mem h4
      simp only [Bool.and_eq_true, beq_iff_eq] at hx2
      exact ⟨x, hx, hx2.1, hx2.2⟩

/-- The state on the way. -/
structure NB (P : Program) (Γ : Cx) (ops : Array Oper) (als : List Al) (Hs : List HE) (K : Env → List HE → Prop) (ord : List (Nat × Bool)) (listed : Array Bool) (A : Act) (W : World) (pre ms : List (Nat × Bool)) (Pd : List Nat) (ea : Nat → Option Nat) (E : Env) (H : List HE) (R : Nat → Prop) : Prop where
  size : listed.size = ops.size
  closed : Closed ops listed
  part : ∀ i, i < ops.size → (listed.getD i false = false ↔ (i ∈ Pd ∨ i ∈ ms.map Prod.fst) ∧ ea i = none)
  ord : ord = pre ++ ms
  pdp : ∀ i ∈ Pd, (i, false) ∈ pre
  am : AB P Γ.N ops als Hs K ms E H
  pend : ∀ i ∈ Pd, ∃ o d v, ops[i]? = some o ∧ o.dst = some d ∧ d < Γ.N ∧ look E d = some v ∧ OpF P Γ.N ops o (rst E (o.looksAt ops)) Hs (Is v)
  rels : RelS Γ R (H ++ (early als ea ++ Hs)) W
  eal : ∀ i b, ea i = some b → ∃ al ∈ als, al.i = i ∧ (i, true) ∈ ms ∧ A.eval (.tmp al.d) = .pointer (some ⟨b, 0, none⟩)
  defers : A.defers = []
  tmps : A.tmps.size = Γ.N
  act : ∀ t v, look E t = some v → (∀ i ∈ Pd, ∀ o, ops[i]? = some o → o.dst ≠ some t) → (∀ al ∈ als, ea al.i ≠ none → t ≠ al.d) → RelV R W v (A.eval (.tmp t))

variable {Γ : Cx} {als : List Al} {Hs : List HE} {K : Env → List HE → Prop} {ord : List (Nat × Bool)}
def alsOk (P : Program) (N : Nat) (ops : Array Oper) (als : List Al) : Prop := (als.map Al.i).Nodup ∧ ∀ al ∈ als, al.ok P N ops

/-- What reads is pending as soon as it may run. -/
theorem NB.absorb {listed : Array Bool} {A : Act} {W : World} {R : Nat → Prop} (hok : ordPairsB ops (isAl als) (ancs ops.toList []) ord = true) (hals : alsOk P Γ.N ops als) : ∀ (ms pre : List (Nat × Bool)) (Pd : List Nat) (ea : Nat → Option Nat) (E : Env) (H : List HE), NB P Γ ops als Hs K ord listed A W pre ms Pd ea E H R →
    ∃ pre' ms' Pd' ea' E' H', NB P Γ ops als Hs K ord listed A W pre' ms' Pd' ea' E' H' R ∧ (ms' = [] ∨ ∃ m r, ms' = (m, true) :: r ∧ ea' m = none)
  | [], pre, Pd, ea, E, H, h => ⟨pre, [], Pd, ea, E, H, h, .inl rfl⟩
  | (m, true) :: r, pre, Pd, ea, E, H, h => by
    cases hea : ea m with
    | none => exact ⟨pre, _, Pd, ea, E, H, h, .inr ⟨m, r, rfl, hea⟩⟩
    | some b =>
      obtain ⟨al, halm, rfl, -, hpt⟩ := h.eal m b hea
      have hfa : alAt als al.i = some al := alAt_mem hals.1 halm
      have hisal : isAl als al.i = true := by unfold isAl; rw [hfa]; rfl
      obtain ⟨oa, ho, hd, hN, hg, hop⟩ := hals.2 al halm
      have ham := h.am
      rw [AB, hfa] at ham
      have hord := h.ord
      have hq := ordPairsB_app (pre := pre) (r := (al.i, true) :: r) (by rw [← hord]; exact hok)
      have hself : ∀ i ∈ Pd, i ≠ al.i := fun i hi e => by
        have := pairOkB (hq.2 _ (h.pdp i hi) (al.i, true) (List.mem_cons_self ..)) (by rw [e]; exact ho) ho
        exact this.ne e
      have hp : ∀ i ∈ Pd, ∀ oi, ops[i]? = some oi → al.d ∉ oi.looksAt ops ∧ oi.dst ≠ some al.d := fun i hi oi hoi => by
        have := pairOkB (hq.2 _ (h.pdp i hi) (al.i, true) (List.mem_cons_self ..)) hoi ho
        obtain ⟨d', h1, h2, h3⟩ := this.flt (.inr hisal)
        rw [hd] at h1
        cases h1
        exact ⟨h2, h3⟩
      have hnr : al.i ∉ r.map Prod.fst := fun hm => by
        obtain ⟨⟨j, c⟩, hq3, hji⟩ := List.mem_map.1 hm
        have h9 := (ordPairsB_app (pre := pre ++ [(al.i, true)]) (r := r) (by rw [List.append_assoc, List.singleton_append, ← hord]; exact hok)).2 (al.i, true) (by simp) _ hq3
        simp only at hji
        subst hji
        exact (pairOkB h9 ho ho).ne rfl
      refine NB.absorb hok hals r (pre ++ [(al.i, true)]) Pd (upd ea al.i none) ((al.d, .val (.pointer (some ⟨b, 0, none⟩))) :: E) (al.he b :: H) ⟨h.size, h.closed, fun i hi => ?_, by rw [hord]; simp, fun i hi => List.mem_append_left _ (h.pdp i hi), ham b, fun i hi => ?_, ?_, fun i b' hb' => ?_, h.defers, h.tmps, fun t x ht hpd hne => ?_⟩
      · rw [h.part i hi]
        simp only [List.map_cons, List.mem_cons]
        by_cases hia : i = al.i
        · subst hia
          rw [upd_same, hea]
          constructor
          · rintro ⟨_, h2⟩; cases h2
          · rintro ⟨h1 | h1, _⟩
            · exact absurd rfl (hself _ h1)
            · exact absurd h1 hnr
        · rw [upd_other _ _ hia]
          refine and_congr_left fun _ => ?_
          constructor
          · rintro (h1 | h1 | h1)
            · exact .inl h1
            · exact absurd h1 hia
            · exact .inr h1
          · rintro (h1 | h1)
            · exact .inl h1
            · exact .inr (.inr h1)
      · obtain ⟨oi, di, vi, h1, h2, h3, h4, h5⟩ := h.pend i hi
        obtain ⟨h6, h7⟩ := hp i hi oi h1
        refine ⟨oi, di, vi, h1, h2, h3, ?_, by rw [rst_skip h6]; exact h5⟩
        rw [look_skip (fun e => h7 (by rw [h2, e]))]; exact h4
      · refine h.rels.perm ?_
        have h1 := early_clear hals.1 halm hea
        show (al.he b :: (H ++ (early als (upd ea al.i none) ++ Hs))).Perm (H ++ (early als ea ++ Hs))
        refine (List.perm_middle (a := al.he b) (l₁ := H)).symm.trans ?_
        exact ((h1.symm.append_right Hs).append_left H)
      · by_cases hia : i = al.i
        · subst hia; rw [upd_same] at hb'; cases hb'
        · rw [upd_other _ _ hia] at hb'
          obtain ⟨al', h1, h2, h3, h4⟩ := h.eal i b' hb'
          refine ⟨al', h1, h2, ?_, h4⟩
          rcases List.mem_cons.1 h3 with h3 | h3
          · cases h3; exact absurd rfl hia
          · exact h3
      · by_cases hdt : al.d = t
        · subst hdt
          rw [look_here] at ht
          cases ht
          rw [hpt]; exact .val _
        · rw [look_skip hdt] at ht
          refine h.act t x ht hpd fun al' hal' hne' e => ?_
          by_cases hia : al'.i = al.i
          · have h1 := alAt_mem hals.1 hal'
            rw [hia, hfa] at h1
            cases h1
            exact hdt e.symm
          · exact hne al' hal' (by rw [upd_other _ _ hia]; exact hne') e
  | (j, false) :: r, pre, Pd, ea, E, H, h => by
    obtain ⟨o, d, v, ho, hd, hN, hop, ham⟩ := h.am
    have hord := h.ord
    have hq := ordPairsB_app (pre := pre) (r := (j, false) :: r) (by rw [← hord]; exact hok)
    have hself : d ∉ o.looksAt ops := by
      have := hq.1
      rw [ordPairsB] at this
      simp only [Bool.and_eq_true, ho, hd, Bool.false_or] at this
      simpa using this.1.1
    have hp : ∀ i ∈ Pd, ∀ oi, ops[i]? = some oi → d ∉ oi.looksAt ops ∧ oi.dst ≠ some d := fun i hi oi hoi => by
      have := pairOkB (hq.2 _ (h.pdp i hi) (j, false) (List.mem_cons_self ..)) hoi ho
      obtain ⟨d', h1, h2, h3⟩ := this.flt (.inl rfl)
      rw [hd] at h1
      cases h1
      exact ⟨h2, h3⟩
    refine NB.absorb hok hals r (pre ++ [(j, false)]) (j :: Pd) ea ((d, v) :: E) H ⟨h.size, h.closed, fun i hi => ?_, by rw [hord]; simp, fun i hi => ?_, ham, fun i hi => ?_, h.rels, fun i b hb => ?_, h.defers, h.tmps, fun t x ht hpd hea => ?_⟩
    · rw [h.part i hi]
      simp only [List.map_cons, List.mem_cons]
      refine and_congr_left fun _ => ?_
      constructor
      · rintro (h | h | h)
        · exact .inl (.inr h)
        · exact .inl (.inl h)
        · exact .inr h
      · rintro ((h | h) | h)
        · exact .inr (.inl h)
        · exact .inl h
        · exact .inr (.inr h)
    · rcases List.mem_cons.1 hi with rfl | hi
      · simp
      · exact List.mem_append_left _ (h.pdp i hi)
    · rcases List.mem_cons.1 hi with rfl | hi
      · exact ⟨o, d, v, ho, hd, hN, look_here, by rw [rst_skip hself]; exact hop⟩
      · obtain ⟨oi, di, vi, h1, h2, h3, h4, h5⟩ := h.pend i hi
        obtain ⟨h6, h7⟩ := hp i hi oi h1
        refine ⟨oi, di, vi, h1, h2, h3, ?_, by rw [rst_skip h6]; exact h5⟩
        rw [look_skip (fun e => h7 (by rw [h2, e]))]; exact h4
    · obtain ⟨al, h0, h9, h1, h2⟩ := h.eal i b hb
      refine ⟨al, h0, h9, ?_, h2⟩
      rcases List.mem_cons.1 h1 with h1 | h1
      · cases h1
      · exact h1
    · have hne : d ≠ t := fun e => hpd j (List.mem_cons_self ..) o ho (by rw [hd, e])
      rw [look_skip hne] at ht
      exact h.act t x ht (fun i hi => hpd i (List.mem_cons_of_mem _ hi)) hea

theorem NB.reads {listed : Array Bool} {A : Act} {W : World} {R : Nat → Prop} {pre ms : List (Nat × Bool)} {Pd : List Nat} {ea : Nat → Option Nat} {E : Env} {H : List HE} (hok : ordPairsB ops (isAl als) (ancs ops.toList []) ord = true) (hals : alsOk P Γ.N ops als) (h : NB P Γ ops als Hs K ord listed A W pre ms Pd ea E H R)
    {i : Nat} {b : Bool} {o : Oper} (ho : ops[i]? = some o) (hdeps : ∀ e ∈ o.after, Region.binds .any e = true → listed.getD e.on false = true) (hi : (i, b) ∈ pre ∧ i ∈ Pd ∧ b = false ∨ ∃ r, ms = (i, b) :: r ∧ isAl als i = false) : RelA Γ.N R W (rst E (o.looksAt ops)) A := by
  refine ⟨h.defers, h.tmps, fun t v ht => ?_⟩
  obtain ⟨htl, ht⟩ := look_rst ht
  have hnal : ∀ al ∈ als, ea al.i ≠ none → t ≠ al.d := fun al halm hea e => by
    obtain ⟨oa, hoa, hda, -⟩ := hals.2 al halm
    have hisal : isAl als al.i = true := by unfold isAl; rw [alAt_mem hals.1 halm]; rfl
    obtain ⟨b', hb'⟩ := Option.ne_none_iff_exists'.1 hea
    obtain ⟨_, -, -, hmem, -⟩ := h.eal _ b' hb'
    have key : ordPairB ops (isAl als) (ancs ops.toList []) i b al.i true = true → False := fun hp => by
      obtain ⟨d', h1, h2, -⟩ := (pairOkB hp ho hoa).flt (.inr hisal)
      rw [hda] at h1; cases h1
      exact h2 (e ▸ htl)
    rcases hi with ⟨hip, -, -⟩ | ⟨r, hms, hne⟩
    · exact key ((ordPairsB_app (pre := pre) (r := ms) (by rw [← h.ord]; exact hok)).2 _ hip _ hmem)
    · rw [hms] at hmem
      rcases List.mem_cons.1 hmem with h9 | h9
      · cases h9; rw [hisal] at hne; cases hne
      · exact key ((ordPairsB_app (pre := pre ++ [(i, b)]) (r := r) (by have := h.ord; rw [List.append_assoc, List.singleton_append, ← hms, ← this]; exact hok)).2 (i, b) (by simp) _ h9)
  refine h.act t v ht (fun k hk ok hok' hdk => ?_) hnal
  have hkp := h.pdp k hk
  have hkn : ea k = none := Classical.byContradiction fun hne => by
    obtain ⟨b', hb'⟩ := Option.ne_none_iff_exists'.1 hne
    obtain ⟨al, halm, rfl, hmem, -⟩ := h.eal _ b' hb'
    obtain ⟨oa, hoa, hda, -⟩ := hals.2 al halm
    exact (pairOkB ((ordPairsB_app (pre := pre) (r := ms) (by rw [← h.ord]; exact hok)).2 _ hkp _ hmem) hok' hoa).ne rfl
  have hkf : listed.getD k false = false := (h.part k (Array.getElem?_eq_some_iff.1 hok').1).2 ⟨.inl hk, hkn⟩
  have direct : ordPairB ops (isAl als) (ancs ops.toList []) k false i b = true → False := fun hp => by
    obtain ⟨e, he, hb, hon⟩ := (pairOkB hp hok' ho).reads t hdk htl
    have := hdeps e he hb
    rw [hon, hkf] at this; cases this
  rcases hi with ⟨hip, hiP, rfl⟩ | ⟨r, hms, -⟩
  · -- both ahead
    obtain ⟨p1, p2, hp12⟩ := List.append_of_mem hkp
    have hord := h.ord
    rw [hp12, List.append_assoc] at hord
    rw [hp12] at hip
    rcases List.mem_append.1 hip with hip | hip
    · -- i ahead of k
      have hq := ordPairsB_app (pre := p1) (by rw [← hord]; exact hok)
      have := pairOkB (hq.2 _ hip (k, false) (List.mem_cons_self ..)) ho hok'
      obtain ⟨d', h1, h2, -⟩ := this.flt (.inl rfl)
      rw [hdk] at h1; cases h1
      exact h2 htl
    · rcases List.mem_cons.1 hip with he | hip
      · cases he
        -- itself
        have hq := (ordPairsB_app (pre := p1) (by rw [← hord]; exact hok)).1
        rw [List.cons_append, ordPairsB] at hq
        simp only [Bool.and_eq_true] at hq
        obtain rfl : o = ok := by rw [ho] at hok'; exact Option.some.inj hok'
        have := hq.1.1
        rw [ho] at this
        simp only [hdk, Bool.false_or] at this
        simp at this
        exact this htl
      · rw [show p1 ++ ((k, false) :: p2 ++ ms) = (p1 ++ [(k, false)]) ++ (p2 ++ ms) by simp] at hord
        have hq := ordPairsB_app (pre := p1 ++ [(k, false)]) (by rw [← hord]; exact hok)
        exact direct (hq.2 (k, false) (by simp) (i, false) (List.mem_append_left _ hip))
  · have hq := ordPairsB_app (pre := pre) (r := ms) (by rw [← h.ord]; exact hok)
    exact direct (hq.2 _ hkp (i, b) (by rw [hms]; exact List.mem_cons_self ..))

/-! One operation. -/
theorem AB.op {i d : Nat} {r : List (Nat × Bool)} {E : Env} {H : List HE} {o : Oper} {v : AV} (ho : ops[i]? = some o) (h : OpW P N o (rst E (o.looksAt ops)) Hs (Is v)) (hw : wantedIs ops (rst E (o.looksAt ops)) o = some true) (hd : o.dst = some d) (hN : Nat.ble (d + 1) N = true) (k : AB P N ops als Hs K r ((d, v) :: E) H) :
    AB P N ops als Hs K ((i, false) :: r) E H := ⟨o, d, v, ho, hd, Nat.le_of_ble_eq_true hN, .run hw h, k⟩
theorem AB.opG {i d : Nat} {r : List (Nat × Bool)} {E : Env} {H : List HE} {o : Oper} {c : Bool} {v : AV} (ho : ops[i]? = some o) (hw : guardIs ops (rst E (o.looksAt ops)) o = some c) (hd : o.dst = some d) (hN : Nat.ble (d + 1) N = true) (h : c = true → OpW P N o (rst E (o.looksAt ops)) Hs (Is v)) (k : AB P N ops als Hs K r ((d, .opt c v) :: E) H) :
    AB P N ops als Hs K ((i, false) :: r) E H := ⟨o, d, _, ho, hd, Nat.le_of_ble_eq_true hN, .opt hw h, k⟩
theorem AB.no {i d : Nat} {r : List (Nat × Bool)} {E : Env} {H : List HE} {o : Oper} (ho : ops[i]? = some o) (hw : wantedIs ops (rst E (o.looksAt ops)) o = some false) (hd : o.dst = some d) (hN : Nat.ble (d + 1) N = true) (k : AB P N ops als Hs K r ((d, .val undef) :: E) H) :
    AB P N ops als Hs K ((i, false) :: r) E H := ⟨o, d, _, ho, hd, Nat.le_of_ble_eq_true hN, .no hw, k⟩
theorem AB.main {i : Nat} {r : List (Nat × Bool)} {E : Env} {H : List HE} (o : Oper) (ho : ops[i]? = some o) (hne : isAl als i = false) (h : ∀ w0 R0, AO ⟨w0, footOf H, R0, N⟩ P ops (QS ⟨w0, footOf H, R0, N⟩ o.dst (fun v H' => AB P N ops als Hs K r (putE o.dst v E) H')) [o] (rst E (o.looksAt ops)) H) :
    AB P N ops als Hs K ((i, true) :: r) E H := by
  have : alAt als i = none := by unfold isAl at hne; exact Option.not_isSome_iff_eq_none.1 (by rw [hne]; simp)
  rw [AB, this]; exact ⟨o, ho, h⟩
theorem AB.box {i : Nat} {r : List (Nat × Bool)} {E : Env} {H : List HE} (al : Al) (he : alAt als i = some al) (k : ∀ b, AB P N ops als Hs K r ((al.d, .val (.pointer (some ⟨b, 0, none⟩))) :: E) (al.he b :: H)) : AB P N ops als Hs K ((i, true) :: r) E H := by rw [AB, he]; exact k
theorem alsOk.nil {P : Program} {N : Nat} {ops : Array Oper} : alsOk P N ops [] := ⟨.nil, fun _ h => by cases h⟩
theorem alsOk.cons {P : Program} {N : Nat} {ops : Array Oper} {al : Al} {als : List Al} (h : al.ok P N ops) (hn : (als.map Al.i).contains al.i = false) (hs : alsOk P N ops als) : alsOk P N ops (al :: als) := by
  refine ⟨?_, fun x hx => ?_⟩
  · rw [List.map_cons, List.nodup_cons]
    exact ⟨fun hm => (by rw [List.contains_iff_mem.2 hm] at hn; cases hn), hs.1⟩
  · rcases List.mem_cons.1 hx with e | hx
    · rw [e]; exact h
    · exact hs.2 x hx
theorem AB.nil {E : Env} {H : List HE} (h : K E H) : AB P N ops als Hs K [] E H := h
end
end Go.Proofs.YtoonnnifelnaiaaGreatDoor.A

namespace Go.Proofs.YtoonnnifelnaiaaGreatDoor.By
open Go.RowKit L A Dk
set_option linter.unusedVariables false
set_option maxRecDepth 20000
set_option linter.unusedSimpArgs false
attribute [local irreducible] AW AQ AO
set_option maxRecDepth 100000 in
set_option maxHeartbeats 8000000 in
theorem topOnce_fn (l : List Int) (hl : l.length ≤ maxLen) : SpK GN Tryz.prog 4 [roI l] [] (Is (.val (.bool true))) := by
  refine SpK.enter Tryz.func4 rfl _ Tryz.ntmps4 rfl (fun w0 R0 hK => ?_)
  refine AW.seq ?_
  refine AW.region ?_
  refine AO.op (O.assign rfl rfl) rfl rfl rfl ?_
  refine AO.nil ?_
  refine AQ.thenN ?_
  refine AW.seq ?_
  refine AW.seq ?_
  refine AW.region ?_
  refine AO.op (O.move rfl rfl) rfl rfl rfl ?_
  refine AO.op (O.call rfl Tryz.func7 rfl rfl rfl (fewT_fn _)) rfl rfl rfl ?_
  refine AO.op (O.not rfl rfl (by rfl)) rfl rfl rfl ?_
  refine AO.nil ?_
  refine AQ.thenN ?_
  refine AW.split rfl (fun hfew => ?_) (fun hfew => ?_) <;> (try simp only [decide_eq_true_eq, decide_eq_false_iff_not, beq_iff_eq, beq_eq_false_iff_ne, bne_iff_ne, bne_eq_false_iff_eq, Bool.not_eq_true', Bool.not_eq_false', Bool.not_eq_true, Bool.not_eq_false, ne_eq, Int.not_lt, Int.not_le, Bool.and_eq_true, Bool.or_eq_true, Bool.or_eq_false_iff, Bool.and_eq_false_imp, strOf_toList, Decidable.not_not] at hfew)
  · skip
    refine AW.seq ?_
    refine AW.region ?_
    refine AO.callK hK notFoot_nil rfl rfl Tryz.func8 rfl rfl rfl rfl rfl (awakeT_fn) ?_
    refine AO.op (O.assign rfl rfl) rfl rfl rfl ?_
    refine AO.nil ?_
    refine AQ.thenN ?_
    refine AW.ret ?_
    refine AQ.thenR ?_
    refine AQ.ret1 rfl rfl ⟨_, List.nil_sublist _, .nil⟩ (⟨rfl, rfl⟩)
  · skip
    refine AW.skip ?_
    refine AQ.thenN ?_
    refine AW.seq ?_
    refine AW.region ?_
    refine AO.op (O.move rfl rfl) rfl rfl rfl ?_
    refine AO.opB (O.call rfl Tryz.func9 rfl rfl rfl (new_fn _)) rfl rfl rfl ?_
    intro B1
    refine AO.op (O.assign rfl rfl) rfl rfl rfl ?_
    refine AO.nil ?_
    refine AQ.thenN ?_
    refine AW.seq ?_
    refine AW.region ?_
    refine AO.opB (O.alloc rfl (by (dsimp only [List.set, List.append, List.cons_append, List.nil_append, roB_cells, roI_cells, roO_cells, roW_cells, roU_cells, roH_cells, splice, ofConst, AV.cells, List.map, List.map_cons, List.map_nil, List.take, List.drop, Nat.zero_add, Nat.add_zero, Nat.reduceAdd, Nat.reduceMul, Nat.zero_mul, Value.cells, List.toList_toArray, zerosA, List.replicate, List.flatten, List.append_nil]; done)) (by rfl)) rfl rfl rfl ?_
    intro B2
    refine AO.opB (O.alloc rfl (by (dsimp only [List.set, List.append, List.cons_append, List.nil_append, roB_cells, roI_cells, roO_cells, roW_cells, roU_cells, roH_cells, splice, ofConst, AV.cells, List.map, List.map_cons, List.map_nil, List.take, List.drop, Nat.zero_add, Nat.add_zero, Nat.reduceAdd, Nat.reduceMul, Nat.zero_mul, Value.cells, List.toList_toArray, zerosA, List.replicate, List.flatten, List.append_nil]; done)) (by rfl)) rfl rfl rfl ?_
    intro B3
    refine AO.nil ?_
    refine AQ.thenN ?_
    refine AW.seq ?_
    refine AW.region ?_
    refine AO.op (O.assign rfl rfl) rfl rfl rfl ?_
    refine AO.op (O.assign rfl rfl) rfl rfl rfl ?_
    refine AO.nil ?_
    refine AQ.thenN ?_
    refine AW.seq ?_
    refine AW.region ?_
    refine AO.op (O.assign rfl rfl) rfl rfl rfl ?_
    refine AO.op (O.assign rfl rfl) rfl rfl rfl ?_
    refine AO.op (O.assign rfl rfl) rfl rfl rfl ?_
    refine AO.nil ?_
    refine AQ.thenN ?_
    refine AW.seq ?_
    refine AW.region ?_
    refine AO.opN (O.makeMap rfl) rfl rfl rfl ?_
    rintro _ _ ⟨B4, rfl, rfl⟩
    simp only [List.cons_append, List.nil_append]
    refine AO.op (O.assign rfl rfl) rfl rfl rfl ?_
    refine AO.nil ?_
    refine AQ.thenN ?_
    refine AW.seq ?_
    refine AW.block ?_
    refine AW.g ?_
    refine G.nilRow 78 9 ?_
    refine AW.u ?_
    refine AW.g ?_
    refine G.freezeCell 0 1 1 rfl rfl rfl ?_
    refine AW.u ?_
    dsimp only [List.eraseIdx, List.set]
    refine AW.g ?_
    refine G.nilRow 122 3 ?_
    refine AW.u ?_
    refine AW.g ?_
    refine G.freezeCell 0 1 2 rfl rfl rfl ?_
    refine AW.u ?_
    dsimp only [List.eraseIdx, List.set]
    refine AW.g ?_
    refine G.nilRow 126 10 ?_
    refine AW.u ?_
    refine AW.g ?_
    refine G.freezeCell 0 1 3 rfl rfl rfl ?_
    refine AW.u ?_
    dsimp only [List.eraseIdx, List.set]
    refine AW.g ?_
    refine G.nilRow 78 9 ?_
    refine AW.u ?_
    refine AW.g ?_
    refine G.freezeCell 0 2 1 rfl rfl rfl ?_
    refine AW.u ?_
    dsimp only [List.eraseIdx, List.set]
    refine AW.g ?_
    refine G.nilRow 122 3 ?_
    refine AW.u ?_
    refine AW.g ?_
    refine G.freezeCell 0 2 2 rfl rfl rfl ?_
    refine AW.u ?_
    dsimp only [List.eraseIdx, List.set]
    refine AW.g ?_
    refine G.nilRow 126 10 ?_
    refine AW.u ?_
    refine AW.g ?_
    refine G.freezeCell 0 2 3 rfl rfl rfl ?_
    refine AW.u ?_
    dsimp only [List.eraseIdx, List.set]
    refine AW.g ?_
    refine G.nilRow 45 7 ?_
    refine AW.u ?_
    refine AW.g ?_
    refine G.nilRow 45 7 ?_
    refine AW.u ?_
    refine AW.loopK [(3, _), (4, _), (5, _), (11, _)] (fun nn E H => ∃ (kk : Nat) (now : Int) (n : Nat) (a b : Ep) (net back : List Pk) (D : List Int) (num : Int → Int) (V V' : Value), (kk ≤ l.length) ∧ (Cl a n) ∧ (n ≤ 100) ∧ (ValE b) ∧ (SrvB b num D) ∧ (Kept b D net now) ∧ (NetT net n now) ∧ (BackT back num D) ∧ (NumT num D n) ∧ (net.length ≤ kk) ∧ (back.length ≤ kk) ∧ (0 ≤ now ∧ now ≤ 4 * (kk : Int)) ∧ (V.oneCell' = true) ∧ (V'.oneCell' = true) ∧ nn = l.length - kk ∧ E = [(6, .val V), (7, .val V'), (8, .val (.int .i64 now)), (9, .val (.int .i64 (D.length : Int))), (10, .val (.int .i64 (n : Int)))] ∧ H = [.row V 45 7 net.length (pksA net), .row V' 45 7 back.length (pksA back), mapN B4 (entN num D), .blk B3 56 4 [.val (.int .i64 b.next), roW b.out, roU b.used, roH b.inn], .blk B2 56 4 [.val (.int .i64 a.next), roW a.out, roU a.used, roH a.inn], deck B1 l kk]) _ (⟨0, 0, 0, ⟨0, [], [], []⟩, ⟨0, [], [], []⟩, [], [], [], fun _ => 0, .slice none 0 0, .slice none 0 0, by omega, cl_new, by omega, val_new ⟨by omega, by omega⟩, (fun h hh => by cases hh), (fun q hq => by cases hq), (fun q hq => by cases hq), (fun q hq => by cases hq), NumT.nil, by simp, by simp, ⟨by omega, by omega⟩, rfl, rfl, rfl, rfl, rfl⟩) (by repeat (first | exact envNil | refine envCons rfl ?_)) (by repeat (first | exact envNil | refine envCons rfl ?_)) (by repeat (first | exact subPnil | refine subPcons 0 rfl ?_)) ?_
    rintro nn E H ⟨kk, now, n, a, b, net, back, D, num, V, V', hk, hA, hn2, hvb, hB, hkp, hnet, hbk, hD, hnl, hbl, hn, hV, hV', rfl, rfl, rfl⟩
    dsimp only [List.cons_append, List.nil_append]
    have hbdA := (ValE.sm hA.v).bd
    have hbdB := (ValE.sm hvb).bd
    have hMl := entN_len num D
    have hDn := hD.le
    refine AW.seq ?_
    refine AW.seq ?_
    refine AW.region ?_
    refine AO.op (O.move rfl rfl) rfl rfl rfl ?_
    (refine AO.callM1 (i := 5) rfl rfl Tryz.func12 rfl rfl rfl rfl rfl rfl (left_fn _ _ _) (by (dsimp only [List.set, List.append, List.cons_append, List.nil_append, roB_cells, roI_cells, roO_cells, roW_cells, roU_cells, roH_cells, splice, ofConst, AV.cells, List.map, List.map_cons, List.map_nil, List.take, List.drop, Nat.zero_add, Nat.add_zero, Nat.reduceAdd, Nat.reduceMul, Nat.zero_mul, Value.cells, List.toList_toArray, zerosA, List.replicate, List.flatten, List.append_nil]; done)) ?_)
    refine AO.op (O.move rfl rfl) rfl rfl rfl ?_
    refine AO.opG rfl rfl rfl (fun hp => O.move rfl rfl) ?_
    refine AO.opG rfl rfl rfl (fun hp => OpW.force 39 rfl (by exact hp) (O.lss rfl rfl rfl (by rfl))) ?_
    refine AO.op (O.pickAnd rfl rfl rfl rfl (fun h => by exact h)) rfl rfl rfl ?_
    refine AO.nil ?_
    refine AQ.thenN ?_
    refine AW.split rfl (fun hleft => ?_) (fun hleft => ?_) <;> (try simp only [decide_eq_true_eq, decide_eq_false_iff_not, beq_iff_eq, beq_eq_false_iff_ne, bne_iff_ne, bne_eq_false_iff_eq, Bool.not_eq_true', Bool.not_eq_false', Bool.not_eq_true, Bool.not_eq_false, ne_eq, Int.not_lt, Int.not_le, Bool.and_eq_true, Bool.or_eq_true, Bool.or_eq_false_iff, Bool.and_eq_false_imp, strOf_toList, Decidable.not_not] at hleft)
    · skip
      obtain ⟨hlk, hn100⟩ := hleft
      have ha1 := adv_in hlk
      have ha2 := adv_ge l (adv l kk)
      have ha2' : adv l (adv l kk) ≤ l.length := adv_le' (adv_le' hk)
      have hz1 := nxt_in l kk (n := 4) (by omega)
      have hz2 := nxt_in l (adv l kk) (n := 4) (by omega)
      refine AW.skip ?_
      refine AQ.thenN ?_
      refine AW.block ?_
      refine AW.seq ?_
      refine AW.region ?_
      refine AO.op (O.move rfl rfl) rfl rfl rfl ?_
      refine AO.op (O.move rfl rfl) rfl rfl rfl ?_
      (refine AO.callM1 (i := 5) rfl rfl Tryz.func13 rfl rfl rfl rfl rfl rfl (next_fn _ _ _ _ hl (by repeat (assumption)) (by omega) (by omega)) (by (dsimp only [List.set, List.append, List.cons_append, List.nil_append, roB_cells, roI_cells, roO_cells, roW_cells, roU_cells, roH_cells, splice, ofConst, AV.cells, List.map, List.map_cons, List.map_nil, List.take, List.drop, Nat.zero_add, Nat.add_zero, Nat.reduceAdd, Nat.reduceMul, Nat.zero_mul, Value.cells, List.toList_toArray, zerosA, List.replicate, List.flatten, List.append_nil]; done)) ?_)
      refine AO.op (O.add rfl rfl rfl (by exact wI64 (by omega))) rfl rfl rfl ?_
      refine AO.op (O.assign rfl rfl) rfl rfl rfl ?_
      refine AO.nil ?_
      refine AQ.thenN ?_
      refine AW.seq ?_
      refine AW.region ?_
      refine AO.op (O.move rfl rfl) rfl rfl rfl ?_
      (refine AO.callM1 (i := 5) rfl rfl Tryz.func13 rfl rfl rfl rfl rfl rfl (next_fn _ _ _ _ hl (by repeat (first | assumption | refine adv_le' ?_)) (by omega) (by omega)) (by (dsimp only [List.set, List.append, List.cons_append, List.nil_append, roB_cells, roI_cells, roO_cells, roW_cells, roU_cells, roH_cells, splice, ofConst, AV.cells, List.map, List.map_cons, List.map_nil, List.take, List.drop, Nat.zero_add, Nat.add_zero, Nat.reduceAdd, Nat.reduceMul, Nat.zero_mul, Value.cells, List.toList_toArray, zerosA, List.replicate, List.flatten, List.append_nil]; done)) ?_)
      refine AO.nil ?_
      refine AQ.thenN ?_
      refine AW.block ?_
      refine AW.seq ?_
      refine AW.region ?_
      refine AO.op (O.eql rfl rfl rfl (by rfl)) rfl rfl rfl ?_
      refine AO.op (O.assign rfl rfl) rfl rfl rfl ?_
      refine AO.nil ?_
      refine AQ.thenN ?_
      generalize hzz : nxt l (adv l kk) 4 = z4 at *
      generalize hne : now + nxt l kk 4 = now2 at *
      have hn3 : now ≤ now2 ∧ 0 ≤ now2 ∧ now2 ≤ 4 * (kk : Int) + 4 := by omega
      have hto : TimeOk now2 := ⟨by omega, by omega⟩
      have hnet2 := hnet.later (Nat.le_refl n) hn3.1
      have hkp2 := hkp.later hn3.1
      refine AW.split rfl (fun h0 => ?_) (fun h0 => ?_) <;> (try simp only [decide_eq_true_eq, decide_eq_false_iff_not, beq_iff_eq, beq_eq_false_iff_ne, bne_iff_ne, bne_eq_false_iff_eq, Bool.not_eq_true', Bool.not_eq_false', Bool.not_eq_true, Bool.not_eq_false, ne_eq, Int.not_lt, Int.not_le, Bool.and_eq_true, Bool.or_eq_true, Bool.or_eq_false_iff, Bool.and_eq_false_imp, strOf_toList, Decidable.not_not] at h0)
      · skip
        have hsd := top_send hA (by omega : n < 100) hto
        refine AW.seq ?_
        refine AW.region ?_
        (refine AO.op (O.loadK rfl rfl (by repeat (first | exact List.Mem.head _ | refine List.Mem.tail _ ?_)) (by (dsimp only [List.set, List.append, List.cons_append, List.nil_append, roB_cells, roI_cells, roO_cells, roW_cells, roU_cells, roH_cells, splice, ofConst, AV.cells, List.map, List.map_cons, List.map_nil, List.take, List.drop, Nat.zero_add, Nat.add_zero, Nat.reduceAdd, Nat.reduceMul, Nat.zero_mul, Value.cells, List.toList_toArray, zerosA, List.replicate, List.flatten, List.append_nil]; done)) (by rfl)) rfl rfl rfl ?_)
        refine AO.op (O.move rfl rfl) rfl rfl rfl ?_
        refine AO.op (O.conv rfl rfl wU8any) rfl rfl rfl ?_
        refine AO.opB (O.buildSlice rfl rfl rfl (by rfl) (by rfl) (by rfl) (by rfl)) rfl rfl rfl ?_
        intro B5
        refine AO.g ?_
        (refine G.freezeSl 0 123 rfl rfl ⟨Nat.le_refl _, by unfold maxLen; omega⟩ ?_)
        refine G.unfull 123 rfl ?_
        refine AO.u ?_
        dsimp only [List.eraseIdx]
        refine AO.op (O.build rfl rfl rfl (by rfl)) rfl rfl rfl ?_
        refine AO.op (O.move rfl rfl) rfl rfl rfl ?_
        (refine AO.op (O.callC rfl Tryz.func20 rfl rfl rfl (send_fn a _ ⟨0, 2, 0, [u8 (n : Int)], [], []⟩ _ hbdA) (by (repeat (first | exact CoeL.nil | refine CoeL.cons Coe.rfl ?_ | refine CoeL.cons Coe.nil ?_ | refine CoeL.cons (Coe.agg ?_) ?_)); done)) rfl rfl rfl ?_)
        refine AO.op (O.move rfl rfl) rfl rfl rfl ?_
        refine AO.op (O.extract rfl rfl rfl) rfl rfl rfl ?_
        refine AO.op (O.extract rfl rfl rfl) rfl rfl rfl ?_
        refine AO.op (O.extract rfl rfl rfl) rfl rfl rfl ?_
        refine AO.opB (O.alloc rfl (by (dsimp only [List.set, List.append, List.cons_append, List.nil_append, roB_cells, roI_cells, roO_cells, roW_cells, roU_cells, roH_cells, splice, ofConst, AV.cells, List.map, List.map_cons, List.map_nil, List.take, List.drop, Nat.zero_add, Nat.add_zero, Nat.reduceAdd, Nat.reduceMul, Nat.zero_mul, Value.cells, List.toList_toArray, zerosA, List.replicate, List.flatten, List.append_nil]; done)) (by rfl)) rfl rfl rfl ?_
        intro B6
        refine AO.opB (O.alloc rfl (by (dsimp only [List.set, List.append, List.cons_append, List.nil_append, roB_cells, roI_cells, roO_cells, roW_cells, roU_cells, roH_cells, splice, ofConst, AV.cells, List.map, List.map_cons, List.map_nil, List.take, List.drop, Nat.zero_add, Nat.add_zero, Nat.reduceAdd, Nat.reduceMul, Nat.zero_mul, Value.cells, List.toList_toArray, zerosA, List.replicate, List.flatten, List.append_nil]; done)) (by rfl)) rfl rfl rfl ?_
        intro B7
        (refine AO.store (i := 1) rfl rfl rfl rfl rfl rfl (by rfl) (by rfl) (by rfl) (by (dsimp only [List.set, List.append, List.cons_append, List.nil_append, roB_cells, roI_cells, roO_cells, roW_cells, roU_cells, roH_cells, splice, ofConst, AV.cells, List.map, List.map_cons, List.map_nil, List.take, List.drop, Nat.zero_add, Nat.add_zero, Nat.reduceAdd, Nat.reduceMul, Nat.zero_mul, Value.cells, List.toList_toArray, zerosA, List.replicate, List.flatten, List.append_nil]; done)) (by (dsimp only [List.set, List.append, List.cons_append, List.nil_append, roB_cells, roI_cells, roO_cells, roW_cells, roU_cells, roH_cells, splice, ofConst, AV.cells, List.map, List.map_cons, List.map_nil, List.take, List.drop, Nat.zero_add, Nat.add_zero, Nat.reduceAdd, Nat.reduceMul, Nat.zero_mul, Value.cells, List.toList_toArray, zerosA, List.replicate, List.flatten, List.append_nil]; done)) ?_)
        (refine AO.store (i := 0) rfl rfl rfl rfl rfl rfl (by rfl) (by rfl) (by rfl) (by (dsimp only [List.set, List.append, List.cons_append, List.nil_append, roB_cells, roI_cells, roO_cells, roW_cells, roU_cells, roH_cells, splice, ofConst, AV.cells, List.map, List.map_cons, List.map_nil, List.take, List.drop, Nat.zero_add, Nat.add_zero, Nat.reduceAdd, Nat.reduceMul, Nat.zero_mul, Value.cells, List.toList_toArray, zerosA, List.replicate, List.flatten, List.append_nil]; done)) (by (dsimp only [List.set, List.append, List.cons_append, List.nil_append, roB_cells, roI_cells, roO_cells, roW_cells, roU_cells, roH_cells, splice, ofConst, AV.cells, List.map, List.map_cons, List.map_nil, List.take, List.drop, Nat.zero_add, Nat.add_zero, Nat.reduceAdd, Nat.reduceMul, Nat.zero_mul, Value.cells, List.toList_toArray, zerosA, List.replicate, List.flatten, List.append_nil]; done)) ?_)
        refine AO.op (O.assign rfl rfl) rfl rfl rfl ?_
        refine AO.nil ?_
        refine AQ.thenN ?_
        refine AW.seq ?_
        refine AW.region ?_
        refine AO.op (O.move rfl rfl) rfl rfl rfl ?_
        refine AO.op (O.eql rfl rfl rfl (by rfl)) rfl rfl rfl ?_
        refine AO.nil ?_
        refine AQ.thenN ?_
        generalize sendR a 1 ⟨0, 2, 0, [u8 (n : Int)], [], []⟩ now2 = s at *
        refine AW.split rfl (fun h1 => ?_) (fun h1 => ?_) <;> (try simp only [decide_eq_true_eq, decide_eq_false_iff_not, beq_iff_eq, beq_eq_false_iff_ne, bne_iff_ne, bne_eq_false_iff_eq, Bool.not_eq_true', Bool.not_eq_false', Bool.not_eq_true, Bool.not_eq_false, ne_eq, Int.not_lt, Int.not_le, Bool.and_eq_true, Bool.or_eq_true, Bool.or_eq_false_iff, Bool.and_eq_false_imp, strOf_toList, Decidable.not_not] at h1)
        · skip
          obtain ⟨hs0, hsm, hsA⟩ := hsd.resolve_left (by omega)
          refine AW.seq ?_
          refine AW.regionM [(0, false), (1, false), (2, false), (3, false), (4, false), (5, false), (6, true), (7, true), (8, true)] (by kernel_rfl) (by kernel_rfl) (by exact (by exact splitRow 6 2 rfl rfl (by exact splitBlk 4 5 rfl rfl splitNil))) ?_
          dsimp only [List.eraseIdx]
          (refine AM.op rfl (O.loadK rfl rfl (by repeat (first | exact List.Mem.head _ | refine List.Mem.tail _ ?_)) (by (dsimp only [List.set, List.append, List.cons_append, List.nil_append, roB_cells, roI_cells, roO_cells, roW_cells, roU_cells, roH_cells, splice, ofConst, AV.cells, List.map, List.map_cons, List.map_nil, List.take, List.drop, Nat.zero_add, Nat.add_zero, Nat.reduceAdd, Nat.reduceMul, Nat.zero_mul, Value.cells, List.toList_toArray, zerosA, List.replicate, List.flatten, List.append_nil]; done)) (by rfl)) rfl rfl rfl ?_)
          refine AM.op rfl (O.move rfl rfl) rfl rfl rfl ?_
          (refine AM.op rfl (O.loadK rfl rfl (by repeat (exact List.Mem.head _)) (by (dsimp only [List.set, List.append, List.cons_append, List.nil_append, roB_cells, roI_cells, roO_cells, roW_cells, roU_cells, roH_cells, splice, ofConst, AV.cells, List.map, List.map_cons, List.map_nil, List.take, List.drop, Nat.zero_add, Nat.add_zero, Nat.reduceAdd, Nat.reduceMul, Nat.zero_mul, Value.cells, List.toList_toArray, zerosA, List.replicate, List.flatten, List.append_nil]; done)) (by rfl)) rfl rfl rfl ?_)
          refine AM.op rfl (O.move rfl rfl) rfl rfl rfl ?_
          refine AM.op rfl (O.build rfl rfl rfl (by rfl)) rfl rfl rfl ?_
          refine AM.op rfl (OpW.frz (O.buildSlice rfl rfl rfl (by rfl) (by rfl) (by rfl) (by rfl)) (by (unfold maxLen; omega))) rfl rfl rfl ?_
          refine AM.main _ rfl (fun w0 R0 => ?_)
          (refine AO.append' (i := 0) rfl rfl rfl rfl (by rfl) (by rfl) rfl rfl rfl (by exact SrcA.ro TyD.ax (by rfl) (Nat.le_of_ble_eq_true rfl)) (by rfl) (by (unfold maxLen; omega)) (by omega) (by (dsimp only [List.set, List.append, List.cons_append, List.nil_append, roB_cells, roI_cells, roO_cells, roW_cells, roU_cells, roH_cells, splice, ofConst, AV.cells, List.map, List.map_cons, List.map_nil, List.take, List.drop, Nat.zero_add, Nat.add_zero, Nat.reduceAdd, Nat.reduceMul, Nat.zero_mul, Value.cells, List.toList_toArray, zerosA, List.replicate, List.flatten, List.append_nil]; done)) (fun _ => by (dsimp only [List.set]; done)) ?_)
          intro V8 hV8
          refine AM.ok ?_
          dsimp only [putE]
          refine AM.main _ rfl (fun w0 R0 => ?_)
          (refine AO.store (i := 1) rfl rfl rfl rfl rfl rfl (by rfl) (by rfl) (by rfl) (by (dsimp only [List.set, List.append, List.cons_append, List.nil_append, roB_cells, roI_cells, roO_cells, roW_cells, roU_cells, roH_cells, splice, ofConst, AV.cells, List.map, List.map_cons, List.map_nil, List.take, List.drop, Nat.zero_add, Nat.add_zero, Nat.reduceAdd, Nat.reduceMul, Nat.zero_mul, Value.cells, List.toList_toArray, zerosA, List.replicate, List.flatten, List.append_nil]; done)) (by (dsimp only [List.set, List.append, List.cons_append, List.nil_append, roB_cells, roI_cells, roO_cells, roW_cells, roU_cells, roH_cells, splice, ofConst, AV.cells, List.map, List.map_cons, List.map_nil, List.take, List.drop, Nat.zero_add, Nat.add_zero, Nat.reduceAdd, Nat.reduceMul, Nat.zero_mul, Value.cells, List.toList_toArray, zerosA, List.replicate, List.flatten, List.append_nil]; done)) ?_)
          refine AM.okN ?_
          dsimp only [putE]
          refine AM.main _ rfl (fun w0 R0 => ?_)
          refine AO.op (O.assign rfl rfl) rfl rfl rfl ?_
          refine AM.ok ?_
          dsimp only [putE]
          refine AM.nil ?_
          dsimp only [List.cons_append, List.nil_append]
          refine AQ.thenN ?_
          refine AW.region ?_
          refine AO.op (O.move rfl rfl) rfl rfl rfl ?_
          refine AO.op (O.add rfl rfl rfl (by exact wI64 (by omega))) rfl rfl rfl ?_
          refine AO.op (O.assign rfl rfl) rfl rfl rfl ?_
          refine AO.nil ?_
          refine AQ.blockN ?_
          refine AQ.blockN ?_
          obtain ⟨net2, hnet2e⟩ : ∃ g2, g2 = net ++ [(⟨s.2.1, now2⟩ : Pk)] := ⟨_, rfl⟩
          have hgl : net2.length = net.length + 1 := by rw [hnet2e, List.length_append]; rfl
          have hgu : pksA net2 = pksA net ++ [.val (.int .i64 s.2.1.ty), .val (.int .i64 s.2.1.code), .val (.int .i64 s.2.1.id), roB s.2.1.tok, roO s.2.1.opts, roB s.2.1.pay, .val (.int .i64 now2)] := by rw [hnet2e, pksA_snoc]
          have hid : s.2.1.id = (n : Int) := congrArg Msg.id hsm
          have hnet3 : NetT net2 (n + 1) now2 := by
            rw [hnet2e]
            exact (hnet2.later (Nat.le_succ n) (Int.le_refl _)).snoc (i := (n : Int)) ⟨by omega, by omega⟩ hsm ⟨hn3.2.1, Int.le_refl _⟩
          have hkp3 : Kept b D net2 now2 := by
            rw [hnet2e]
            exact hkp2.snoc (fun hd _ => by
              have h1 := (hD.inn _ hd).2
              have h2 : (⟨s.2.1, now2⟩ : Pk).m.id = (n : Int) := hid
              omega)
          rw [← hgu, ← hgl]
          refine AQ.loopKN _ _ _ (by omega) (⟨_, now2, n + 1, s.1, b, net2, back, D, num, _, V', ha2', hsA, by omega, hvb, hB, hkp3, hnet3, hbk, hD.more (Nat.le_succ n), by omega, by omega, by omega, ‹_›, hV', rfl, rfl, rfl⟩) (by repeat (first | exact envNil | refine envCons rfl ?_)) (by repeat (first | exact envNil | refine envCons rfl ?_)) (by repeat (first | exact subPnil | refine subPcons 0 rfl ?_ | refine subPcons 2 rfl ?_ | refine subPcons 3 rfl ?_))
        · skip
          refine AW.skip ?_
          refine AQ.blockN ?_
          refine AQ.blockN ?_
          refine AQ.loopKN _ _ _ (by omega) (⟨_, now2, n, a, b, net, back, D, num, V, V', ha2', hA, hn2, hvb, hB, hkp2, hnet2, hbk, hD, by omega, by omega, by omega, hV, hV', rfl, rfl, rfl⟩) (by repeat (first | exact envNil | refine envCons rfl ?_)) (by repeat (first | exact envNil | refine envCons rfl ?_)) (by repeat (first | exact subPnil | refine subPcons 2 rfl ?_))
      · skip
        refine AW.seq ?_
        refine AW.seq ?_
        refine AW.region ?_
        refine AO.op (O.eql rfl rfl rfl (by rfl)) rfl rfl rfl ?_
        refine AO.op (O.assign rfl rfl) rfl rfl rfl ?_
        refine AO.nil ?_
        refine AQ.thenN ?_
        refine AW.joinK (True) [(3, _), (4, _), (5, _), (6, _), (7, _), (8, _), (9, _), (10, _), (11, _)] [(141, .val (.bool (decide (z4 < 3))))] [.row V 45 7 net.length (pksA net), .row V' 45 7 back.length (pksA back), mapN B4 (entN num D), .blk B3 56 4 [.val (.int .i64 b.next), roW b.out, roU b.used, roH b.inn], .blk B2 56 4 [.val (.int .i64 a.next), roW a.out, roU a.used, roH a.inn], deck B1 l (adv l (adv l kk))] rfl (by repeat (first | exact envNil | refine envCons rfl ?_)) (fun hz => ?_) (fun hz => ?_) (fun hj => ?_) <;> try (try simp only [decide_eq_true_eq, decide_eq_false_iff_not, beq_iff_eq, beq_eq_false_iff_ne, bne_iff_ne, bne_eq_false_iff_eq, Bool.not_eq_true', Bool.not_eq_false', Bool.not_eq_true, Bool.not_eq_false, ne_eq, Int.not_lt, Int.not_le, Bool.and_eq_true, Bool.or_eq_true, Bool.or_eq_false_iff, Bool.and_eq_false_imp, strOf_toList, Decidable.not_not] at hz)
        · skip
          have e1 : (z4 == 1) = true := by rw [hz]; rfl
          have e2 : decide (z4 < 3) = true := decide_eq_true (by omega)
          rw [e1, e2]
          refine AW.skip ?_
          refine AQ.midK (trivial) (by repeat (first | exact envNil | refine envCons rfl ?_)) (by repeat (first | exact envNil | refine envCons rfl ?_)) (by repeat (first | exact subPnil | refine subPcons 0 rfl ?_))
        · skip
          refine AW.region ?_
          refine AO.op (O.eql rfl rfl rfl (by rfl)) rfl rfl rfl ?_
          refine AO.op (O.assign rfl rfl) rfl rfl rfl ?_
          refine AO.nil ?_
          have e2 : (z4 == 2) = decide (z4 < 3) := by rw [Bool.eq_iff_iff, beq_iff_eq, decide_eq_true_eq]; omega
          rw [e2]
          refine AQ.midK (trivial) (by repeat (first | exact envNil | refine envCons rfl ?_)) (by repeat (first | exact envNil | refine envCons rfl ?_)) (by repeat (first | exact subPnil | refine subPcons 0 rfl ?_))
        dsimp only [List.cons_append, List.nil_append]
        refine AQ.thenN ?_
        refine AW.split rfl (fun h12 => ?_) (fun h12 => ?_) <;> (try simp only [decide_eq_true_eq, decide_eq_false_iff_not, beq_iff_eq, beq_eq_false_iff_ne, bne_iff_ne, bne_eq_false_iff_eq, Bool.not_eq_true', Bool.not_eq_false', Bool.not_eq_true, Bool.not_eq_false, ne_eq, Int.not_lt, Int.not_le, Bool.and_eq_true, Bool.or_eq_true, Bool.or_eq_false_iff, Bool.and_eq_false_imp, strOf_toList, Decidable.not_not] at h12)
        · skip
          refine AW.seq ?_
          refine AW.seq ?_
          refine AW.region ?_
          refine AO.op (O.move rfl rfl) rfl rfl rfl ?_
          refine AO.op (O.lenRow rfl rfl (by repeat (exact List.Mem.head _))) rfl rfl rfl ?_
          refine AO.op (O.eql rfl rfl rfl (by rfl)) rfl rfl rfl ?_
          refine AO.nil ?_
          refine AQ.thenN ?_
          refine AW.split rfl (fun hem => ?_) (fun hem => ?_) <;> (try simp only [decide_eq_true_eq, decide_eq_false_iff_not, beq_iff_eq, beq_eq_false_iff_ne, bne_iff_ne, bne_eq_false_iff_eq, Bool.not_eq_true', Bool.not_eq_false', Bool.not_eq_true, Bool.not_eq_false, ne_eq, Int.not_lt, Int.not_le, Bool.and_eq_true, Bool.or_eq_true, Bool.or_eq_false_iff, Bool.and_eq_false_imp, strOf_toList, Decidable.not_not] at hem)
          · skip
            refine AW.exit ?_
            refine AQ.thenX ?_
            refine AQ.blockY rfl ?_
            refine AQ.blockX rfl ?_
            refine AQ.loopKN _ _ _ (by omega) (⟨_, now2, n, a, b, net, back, D, num, V, V', ha2', hA, hn2, hvb, hB, hkp2, hnet2, hbk, hD, by omega, by omega, by omega, hV, hV', rfl, rfl, rfl⟩) (by repeat (first | exact envNil | refine envCons rfl ?_)) (by repeat (first | exact envNil | refine envCons rfl ?_)) (by repeat (first | exact subPnil | refine subPcons 0 rfl ?_))
          · skip
            have hnl0 : 0 < net.length := by omega
            have hz3 := nxt_in l (adv l (adv l kk)) (n := (net.length : Int)) (by omega)
            have ha3 := adv_ge l (adv l (adv l kk))
            have ha3' : adv l (adv l (adv l kk)) ≤ l.length := adv_le' ha2'
            obtain ⟨j, hj⟩ : ∃ j : Nat, nxt l (adv l (adv l kk)) (net.length : Int) = (j : Int) := ⟨(nxt l (adv l (adv l kk)) (net.length : Int)).toNat, by omega⟩
            rw [hj] at hz3
            have hjl : j < net.length := by omega
            obtain ⟨i, hi0, hin, hqm, hqa, hqn⟩ := hnet2 _ (getD_mem Pk.none hjl)
            have hqm' : (pk net j).m = reqT i := hqm
            obtain ⟨at_, hat⟩ : ∃ at_, at_ = (pk net j).at_ := ⟨_, rfl⟩
            have hgp : ((pksA net).drop (0 + (nxt l (adv l (adv l kk)) (net.length : Int)).toNat * 7)).take 7 = [.val (.int .i64 0), .val (.int .i64 2), .val (.int .i64 i), roB [u8 i], roO [], roB [], .val (.int .i64 at_)] := by
              rw [getP hjl (by omega), hat]; simp only [cP, hqm']
            have hqa' : 0 ≤ at_ ∧ at_ ≤ now2 := by rw [hat]; exact ⟨hqa, hqn⟩
            refine AW.g ?_
            refine G.openRow 0 rfl (by omega) (fun b' cap hc1 hc2 hxs hVe => ?_)
            refine AW.u ?_
            subst hVe
            refine AW.g ?_
            dsimp only [List.set]
            refine AW.u ?_
            refine AW.skip ?_
            refine AQ.thenN ?_
            refine AW.seq ?_
            refine AW.region ?_
            refine AO.op (O.move rfl rfl) rfl rfl rfl ?_
            refine AO.op (O.move rfl rfl) rfl rfl rfl ?_
            refine AO.op (O.move rfl rfl) rfl rfl rfl ?_
            refine AO.op (O.lenV rfl rfl) rfl rfl rfl ?_
            (refine AO.callM1 (i := 5) rfl rfl Tryz.func13 rfl rfl rfl rfl rfl rfl (next_fn _ _ _ _ hl (by repeat (assumption)) (by omega) (by omega)) (by (dsimp only [List.set, List.append, List.cons_append, List.nil_append, roB_cells, roI_cells, roO_cells, roW_cells, roU_cells, roH_cells, splice, ofConst, AV.cells, List.map, List.map_cons, List.map_nil, List.take, List.drop, Nat.zero_add, Nat.add_zero, Nat.reduceAdd, Nat.reduceMul, Nat.zero_mul, Value.cells, List.toList_toArray, zerosA, List.replicate, List.flatten, List.append_nil]; done)) ?_)
            refine AO.op (O.idxV rfl rfl rfl ⟨(by omega), (by omega)⟩) rfl rfl rfl ?_
            refine AO.op (O.loadK rfl rfl (by repeat (exact List.Mem.head _)) (by exact hgp) (by rfl)) rfl rfl rfl ?_
            refine AO.opB (O.alloc rfl (by (dsimp only [List.set, List.append, List.cons_append, List.nil_append, roB_cells, roI_cells, roO_cells, roW_cells, roU_cells, roH_cells, splice, ofConst, AV.cells, List.map, List.map_cons, List.map_nil, List.take, List.drop, Nat.zero_add, Nat.add_zero, Nat.reduceAdd, Nat.reduceMul, Nat.zero_mul, Value.cells, List.toList_toArray, zerosA, List.replicate, List.flatten, List.append_nil]; done)) (by rfl)) rfl rfl rfl ?_
            intro B9
            (refine AO.store (i := 0) rfl rfl rfl rfl rfl rfl (by rfl) (by rfl) (by rfl) (by (dsimp only [List.set, List.append, List.cons_append, List.nil_append, roB_cells, roI_cells, roO_cells, roW_cells, roU_cells, roH_cells, splice, ofConst, AV.cells, List.map, List.map_cons, List.map_nil, List.take, List.drop, Nat.zero_add, Nat.add_zero, Nat.reduceAdd, Nat.reduceMul, Nat.zero_mul, Value.cells, List.toList_toArray, zerosA, List.replicate, List.flatten, List.append_nil]; done)) (by (dsimp only [List.set, List.append, List.cons_append, List.nil_append, roB_cells, roI_cells, roO_cells, roW_cells, roU_cells, roH_cells, splice, ofConst, AV.cells, List.map, List.map_cons, List.map_nil, List.take, List.drop, Nat.zero_add, Nat.add_zero, Nat.reduceAdd, Nat.reduceMul, Nat.zero_mul, Value.cells, List.toList_toArray, zerosA, List.replicate, List.flatten, List.append_nil]; done)) ?_)
            refine AO.nil ?_
            refine AQ.thenN ?_
            refine AW.seq ?_
            refine AW.seq ?_
            refine AW.region ?_
            refine AO.op (O.move rfl rfl) rfl rfl rfl ?_
            refine AO.op (O.fieldAddr rfl rfl) rfl rfl rfl ?_
            refine AO.op (O.load rfl rfl (by repeat (exact List.Mem.head _)) (by rfl)) rfl rfl rfl ?_
            refine AO.op (O.sub rfl rfl rfl (by exact wI64 (by omega))) rfl rfl rfl ?_
            refine AO.op (O.geq rfl rfl rfl (by rfl)) rfl rfl rfl ?_
            refine AO.nil ?_
            refine AQ.thenN ?_
            refine AW.g ?_
            refine G.closeRow (b := b') 1 rfl hxs rfl hc1 hc2 ?_
            refine AW.u ?_
            refine AW.g ?_
            dsimp only [List.set]
            refine AW.u ?_
            refine AW.split rfl (fun hold => ?_) (fun hold => ?_) <;> (try simp only [decide_eq_true_eq, decide_eq_false_iff_not, beq_iff_eq, beq_eq_false_iff_ne, bne_iff_ne, bne_eq_false_iff_eq, Bool.not_eq_true', Bool.not_eq_false', Bool.not_eq_true, Bool.not_eq_false, ne_eq, Int.not_lt, Int.not_le, Bool.and_eq_true, Bool.or_eq_true, Bool.or_eq_false_iff, Bool.and_eq_false_imp, strOf_toList, Decidable.not_not] at hold)
            · skip
              refine AW.exit ?_
              refine AQ.thenX ?_
              refine AQ.blockY rfl ?_
              refine AQ.blockX rfl ?_
              refine AQ.loopKN _ _ _ (by omega) (⟨_, now2, n, a, b, net, back, D, num, _, V', ha3', hA, hn2, hvb, hB, hkp2, hnet2, hbk, hD, by omega, by omega, by omega, hV, hV', rfl, rfl, rfl⟩) (by repeat (first | exact envNil | refine envCons rfl ?_)) (by repeat (first | exact envNil | refine envCons rfl ?_)) (by repeat (first | exact subPnil | refine subPcons 1 rfl ?_))
            · skip
              have hrec := top_recv hvb hB hkp2 hnet2 (getD_mem Pk.none hjl) hqm' ⟨hi0, by omega⟩ hto (by have : (net.getD j Pk.none).at_ = at_ := hat.symm; omega)
              refine AW.skip ?_
              refine AQ.thenN ?_
              refine AW.seq ?_
              refine AW.region ?_
              (refine AO.op (O.loadK rfl rfl (by repeat (first | exact List.Mem.head _ | refine List.Mem.tail _ ?_)) (by (dsimp only [List.set, List.append, List.cons_append, List.nil_append, roB_cells, roI_cells, roO_cells, roW_cells, roU_cells, roH_cells, splice, ofConst, AV.cells, List.map, List.map_cons, List.map_nil, List.take, List.drop, Nat.zero_add, Nat.add_zero, Nat.reduceAdd, Nat.reduceMul, Nat.zero_mul, Value.cells, List.toList_toArray, zerosA, List.replicate, List.flatten, List.append_nil]; done)) (by rfl)) rfl rfl rfl ?_)
              refine AO.op (O.fieldAddr rfl rfl) rfl rfl rfl ?_
              (refine AO.op (O.loadK rfl rfl (by repeat (exact List.Mem.head _)) (by (dsimp only [List.set, List.append, List.cons_append, List.nil_append, roB_cells, roI_cells, roO_cells, roW_cells, roU_cells, roH_cells, splice, ofConst, AV.cells, List.map, List.map_cons, List.map_nil, List.take, List.drop, Nat.zero_add, Nat.add_zero, Nat.reduceAdd, Nat.reduceMul, Nat.zero_mul, Value.cells, List.toList_toArray, zerosA, List.replicate, List.flatten, List.append_nil]; done)) (by rfl)) rfl rfl rfl ?_)
              refine AO.op (O.move rfl rfl) rfl rfl rfl ?_
              refine AO.op (O.call rfl Tryz.func21 rfl rfl rfl (recv_fn b _ (reqT i) _ hbdB)) rfl rfl rfl ?_
              refine AO.op (O.move rfl rfl) rfl rfl rfl ?_
              refine AO.op (O.extract rfl rfl rfl) rfl rfl rfl ?_
              refine AO.op (O.extract rfl rfl rfl) rfl rfl rfl ?_
              refine AO.op (O.extract rfl rfl rfl) rfl rfl rfl ?_
              refine AO.op (O.extract rfl rfl rfl) rfl rfl rfl ?_
              refine AO.opB (O.alloc rfl (by (dsimp only [List.set, List.append, List.cons_append, List.nil_append, roB_cells, roI_cells, roO_cells, roW_cells, roU_cells, roH_cells, splice, ofConst, AV.cells, List.map, List.map_cons, List.map_nil, List.take, List.drop, Nat.zero_add, Nat.add_zero, Nat.reduceAdd, Nat.reduceMul, Nat.zero_mul, Value.cells, List.toList_toArray, zerosA, List.replicate, List.flatten, List.append_nil]; done)) (by rfl)) rfl rfl rfl ?_
              intro B10
              refine AO.opB (O.alloc rfl (by (dsimp only [List.set, List.append, List.cons_append, List.nil_append, roB_cells, roI_cells, roO_cells, roW_cells, roU_cells, roH_cells, splice, ofConst, AV.cells, List.map, List.map_cons, List.map_nil, List.take, List.drop, Nat.zero_add, Nat.add_zero, Nat.reduceAdd, Nat.reduceMul, Nat.zero_mul, Value.cells, List.toList_toArray, zerosA, List.replicate, List.flatten, List.append_nil]; done)) (by rfl)) rfl rfl rfl ?_
              intro B11
              (refine AO.store (i := 1) rfl rfl rfl rfl rfl rfl (by rfl) (by rfl) (by rfl) (by (dsimp only [List.set, List.append, List.cons_append, List.nil_append, roB_cells, roI_cells, roO_cells, roW_cells, roU_cells, roH_cells, splice, ofConst, AV.cells, List.map, List.map_cons, List.map_nil, List.take, List.drop, Nat.zero_add, Nat.add_zero, Nat.reduceAdd, Nat.reduceMul, Nat.zero_mul, Value.cells, List.toList_toArray, zerosA, List.replicate, List.flatten, List.append_nil]; done)) (by (dsimp only [List.set, List.append, List.cons_append, List.nil_append, roB_cells, roI_cells, roO_cells, roW_cells, roU_cells, roH_cells, splice, ofConst, AV.cells, List.map, List.map_cons, List.map_nil, List.take, List.drop, Nat.zero_add, Nat.add_zero, Nat.reduceAdd, Nat.reduceMul, Nat.zero_mul, Value.cells, List.toList_toArray, zerosA, List.replicate, List.flatten, List.append_nil]; done)) ?_)
              refine AO.op (O.assign rfl rfl) rfl rfl rfl ?_
              (refine AO.store (i := 0) rfl rfl rfl rfl rfl rfl (by rfl) (by rfl) (by rfl) (by (dsimp only [List.set, List.append, List.cons_append, List.nil_append, roB_cells, roI_cells, roO_cells, roW_cells, roU_cells, roH_cells, splice, ofConst, AV.cells, List.map, List.map_cons, List.map_nil, List.take, List.drop, Nat.zero_add, Nat.add_zero, Nat.reduceAdd, Nat.reduceMul, Nat.zero_mul, Value.cells, List.toList_toArray, zerosA, List.replicate, List.flatten, List.append_nil]; done)) (by (dsimp only [List.set, List.append, List.cons_append, List.nil_append, roB_cells, roI_cells, roO_cells, roW_cells, roU_cells, roH_cells, splice, ofConst, AV.cells, List.map, List.map_cons, List.map_nil, List.take, List.drop, Nat.zero_add, Nat.add_zero, Nat.reduceAdd, Nat.reduceMul, Nat.zero_mul, Value.cells, List.toList_toArray, zerosA, List.replicate, List.flatten, List.append_nil]; done)) ?_)
              refine AO.op (O.assign rfl rfl) rfl rfl rfl ?_
              refine AO.nil ?_
              refine AQ.thenN ?_
              refine AW.seq ?_
              refine AW.seq ?_
              refine AW.region ?_
              refine AO.op (O.move rfl rfl) rfl rfl rfl ?_
              refine AO.op (O.neq rfl rfl rfl (by exact bne_eq_false_iff_eq.2 (by omega))) rfl rfl rfl ?_
              refine AO.nil ?_
              refine AQ.thenN ?_
              generalize recvR b 0 (reqT i) now2 = r at *
              obtain ⟨r1, r2, r3, r4⟩ := r
              dsimp only at hrec
              obtain ⟨rfl, hvr, hrec⟩ := hrec
              have hbdR := (ValE.sm hvr).bd
              dsimp only
              refine AW.split rfl (fun h75 => ?_) (fun h75 => ?_) <;> (try simp only [decide_eq_true_eq, decide_eq_false_iff_not, beq_iff_eq, beq_eq_false_iff_ne, bne_iff_ne, bne_eq_false_iff_eq, Bool.not_eq_true', Bool.not_eq_false', Bool.not_eq_true, Bool.not_eq_false, ne_eq, Int.not_lt, Int.not_le, Bool.and_eq_true, Bool.or_eq_true, Bool.or_eq_false_iff, Bool.and_eq_false_imp, strOf_toList, Decidable.not_not] at h75)
              · skip
                exact absurd h75 (by simp)
              · skip
                refine AW.skip ?_
                refine AQ.thenN ?_
                refine AW.seq ?_
                refine AW.region ?_
                (refine AO.op (O.loadK rfl rfl (by repeat (first | exact List.Mem.head _ | refine List.Mem.tail _ ?_)) (by (dsimp only [List.set, List.append, List.cons_append, List.nil_append, roB_cells, roI_cells, roO_cells, roW_cells, roU_cells, roH_cells, splice, ofConst, AV.cells, List.map, List.map_cons, List.map_nil, List.take, List.drop, Nat.zero_add, Nat.add_zero, Nat.reduceAdd, Nat.reduceMul, Nat.zero_mul, Value.cells, List.toList_toArray, zerosA, List.replicate, List.flatten, List.append_nil]; done)) (by rfl)) rfl rfl rfl ?_)
                (refine AO.store (i := 6) rfl rfl rfl rfl rfl rfl (by rfl) (by rfl) (by rfl) (by (dsimp only [List.set, List.append, List.cons_append, List.nil_append, roB_cells, roI_cells, roO_cells, roW_cells, roU_cells, roH_cells, splice, ofConst, AV.cells, List.map, List.map_cons, List.map_nil, List.take, List.drop, Nat.zero_add, Nat.add_zero, Nat.reduceAdd, Nat.reduceMul, Nat.zero_mul, Value.cells, List.toList_toArray, zerosA, List.replicate, List.flatten, List.append_nil]; done)) (by (dsimp only [List.set, List.append, List.cons_append, List.nil_append, roB_cells, roI_cells, roO_cells, roW_cells, roU_cells, roH_cells, splice, ofConst, AV.cells, List.map, List.map_cons, List.map_nil, List.take, List.drop, Nat.zero_add, Nat.add_zero, Nat.reduceAdd, Nat.reduceMul, Nat.zero_mul, Value.cells, List.toList_toArray, zerosA, List.replicate, List.flatten, List.append_nil]; done)) ?_)
                refine AO.nil ?_
                refine AQ.thenN ?_
                refine AW.seq ?_
                refine AW.seq ?_
                refine AW.region ?_
                refine AO.op (O.move rfl rfl) rfl rfl rfl ?_
                refine AO.op (O.eql rfl rfl rfl (by rfl)) rfl rfl rfl ?_
                refine AO.nil ?_
                refine AQ.thenN ?_
                rcases hrec with ⟨rfl, hB', hk', hid, rfl⟩ | ⟨rfl, hB', hk'⟩ | ⟨rfl, hnd, hans⟩
                · skip
                  refine AW.split rfl (fun h82 => ?_) (fun h82 => ?_) <;> (try simp only [decide_eq_true_eq, decide_eq_false_iff_not, beq_iff_eq, beq_eq_false_iff_ne, bne_iff_ne, bne_eq_false_iff_eq, Bool.not_eq_true', Bool.not_eq_false', Bool.not_eq_true, Bool.not_eq_false, ne_eq, Int.not_lt, Int.not_le, Bool.and_eq_true, Bool.or_eq_true, Bool.or_eq_false_iff, Bool.and_eq_false_imp, strOf_toList, Decidable.not_not] at h82)
                  · skip
                    exact absurd h82 (by simp)
                  · skip
                    refine AW.skip ?_
                    refine AQ.thenN ?_
                    refine AW.seq ?_
                    refine AW.region ?_
                    refine AO.op (O.move rfl rfl) rfl rfl rfl ?_
                    refine AO.op (O.eql rfl rfl rfl (by exact beq_eq_false_iff_ne.2 (by omega))) rfl rfl rfl ?_
                    refine AO.op (O.move rfl rfl) rfl rfl rfl ?_
                    refine AO.op (O.move rfl rfl) rfl rfl rfl ?_
                    refine AO.op (O.eql rfl rfl rfl (by exact beq_iff_eq.2 (by omega))) rfl rfl rfl ?_
                    refine AO.op (O.pickF rfl rfl rfl) rfl rfl rfl ?_
                    refine AO.nil ?_
                    refine AQ.thenN ?_
                    refine AW.split rfl (fun h104 => ?_) (fun h104 => ?_) <;> (try simp only [decide_eq_true_eq, decide_eq_false_iff_not, beq_iff_eq, beq_eq_false_iff_ne, bne_iff_ne, bne_eq_false_iff_eq, Bool.not_eq_true', Bool.not_eq_false', Bool.not_eq_true, Bool.not_eq_false, ne_eq, Int.not_lt, Int.not_le, Bool.and_eq_true, Bool.or_eq_true, Bool.or_eq_false_iff, Bool.and_eq_false_imp, strOf_toList, Decidable.not_not] at h104)
                    · skip
                      have hbk2 : BackT (back ++ [(⟨ackT i (num i), now2⟩ : Pk)]) num D := hbk.snoc hid rfl
                      have hgb := pksB_snoc back (ackT i (num i)) now2
                      have hgbl : (back ++ [(⟨ackT i (num i), now2⟩ : Pk)]).length = back.length + 1 := by rw [List.length_append]; rfl
                      refine AW.region ?_
                      refine AO.op (O.move rfl rfl) rfl rfl rfl ?_
                      (refine AO.op (O.loadK rfl rfl (by repeat (exact List.Mem.head _)) (by (dsimp only [List.set, List.append, List.cons_append, List.nil_append, roB_cells, roI_cells, roO_cells, roW_cells, roU_cells, roH_cells, splice, ofConst, AV.cells, List.map, List.map_cons, List.map_nil, List.take, List.drop, Nat.zero_add, Nat.add_zero, Nat.reduceAdd, Nat.reduceMul, Nat.zero_mul, Value.cells, List.toList_toArray, zerosA, List.replicate, List.flatten, List.append_nil]; done)) (by rfl)) rfl rfl rfl ?_)
                      refine AO.op (O.move rfl rfl) rfl rfl rfl ?_
                      refine AO.op (O.build rfl rfl rfl (by rfl)) rfl rfl rfl ?_
                      refine AO.opB (O.buildSlice rfl rfl rfl (by rfl) (by rfl) (by rfl) (by rfl)) rfl rfl rfl ?_
                      intro B12
                      refine AO.g ?_
                      (refine G.freezeSl 0 224 rfl rfl ⟨Nat.le_refl _, by unfold maxLen; omega⟩ ?_)
                      refine G.unfull 224 rfl ?_
                      refine AO.u ?_
                      dsimp only [List.eraseIdx]
                      (refine AO.append' (i := 4) rfl rfl rfl rfl (by rfl) (by rfl) rfl rfl rfl (by exact SrcA.ro TyD.ax (by rfl) (Nat.le_of_ble_eq_true rfl)) (by rfl) (by (unfold maxLen; omega)) (by omega) (by (dsimp only [List.set, List.append, List.cons_append, List.nil_append, roB_cells, roI_cells, roO_cells, roW_cells, roU_cells, roH_cells, splice, ofConst, AV.cells, List.map, List.map_cons, List.map_nil, List.take, List.drop, Nat.zero_add, Nat.add_zero, Nat.reduceAdd, Nat.reduceMul, Nat.zero_mul, Value.cells, List.toList_toArray, zerosA, List.replicate, List.flatten, List.append_nil]; done)) (fun _ => by (dsimp only [List.set]; done)) ?_)
                      intro V13 hV13
                      refine AO.op (O.assign rfl rfl) rfl rfl rfl ?_
                      refine AO.nil ?_
                      refine AQ.blockN ?_
                      refine AQ.blockN ?_
                      rw [show pksA back ++ _ = _ from hgb, ← hgbl]
                      refine AQ.loopKN _ _ _ (by omega) (⟨_, now2, n, a, r1, net, _, D, num, _, _, ha3', hA, hn2, hvr, hB', hk', hnet2, hbk2, hD, by omega, by omega, by omega, hV, ‹_›, rfl, rfl, rfl⟩) (by repeat (first | exact envNil | refine envCons rfl ?_)) (by repeat (first | exact envNil | refine envCons rfl ?_)) (by repeat (first | exact subPnil | refine subPcons 3 rfl ?_))
                    · skip
                      exact absurd h104 (by simp)
                · skip
                  refine AW.split rfl (fun h82 => ?_) (fun h82 => ?_) <;> (try simp only [decide_eq_true_eq, decide_eq_false_iff_not, beq_iff_eq, beq_eq_false_iff_ne, bne_iff_ne, bne_eq_false_iff_eq, Bool.not_eq_true', Bool.not_eq_false', Bool.not_eq_true, Bool.not_eq_false, ne_eq, Int.not_lt, Int.not_le, Bool.and_eq_true, Bool.or_eq_true, Bool.or_eq_false_iff, Bool.and_eq_false_imp, strOf_toList, Decidable.not_not] at h82)
                  · skip
                    exact absurd h82 (by simp)
                  · skip
                    refine AW.skip ?_
                    refine AQ.thenN ?_
                    refine AW.seq ?_
                    refine AW.region ?_
                    refine AO.op (O.move rfl rfl) rfl rfl rfl ?_
                    refine AO.op (O.eql rfl rfl rfl (by exact beq_eq_false_iff_ne.2 (by omega))) rfl rfl rfl ?_
                    refine AO.op (O.move rfl rfl) rfl rfl rfl ?_
                    refine AO.op (O.move rfl rfl) rfl rfl rfl ?_
                    refine AO.op (O.eql rfl rfl rfl (by exact beq_eq_false_iff_ne.2 (by omega))) rfl rfl rfl ?_
                    refine AO.op (O.pickF rfl rfl rfl) rfl rfl rfl ?_
                    refine AO.nil ?_
                    refine AQ.thenN ?_
                    refine AW.split rfl (fun h104 => ?_) (fun h104 => ?_) <;> (try simp only [decide_eq_true_eq, decide_eq_false_iff_not, beq_iff_eq, beq_eq_false_iff_ne, bne_iff_ne, bne_eq_false_iff_eq, Bool.not_eq_true', Bool.not_eq_false', Bool.not_eq_true, Bool.not_eq_false, ne_eq, Int.not_lt, Int.not_le, Bool.and_eq_true, Bool.or_eq_true, Bool.or_eq_false_iff, Bool.and_eq_false_imp, strOf_toList, Decidable.not_not] at h104)
                    · skip
                      exact absurd h104 (by simp)
                    · skip
                      refine AW.skip ?_
                      refine AQ.blockN ?_
                      refine AQ.blockN ?_
                      refine AQ.loopKN _ _ _ (by omega) (⟨_, now2, n, a, r1, net, back, D, num, _, V', ha3', hA, hn2, hvr, hB', hk', hnet2, hbk, hD, by omega, by omega, by omega, hV, hV', rfl, rfl, rfl⟩) (by repeat (first | exact envNil | refine envCons rfl ?_)) (by repeat (first | exact envNil | refine envCons rfl ?_)) (by repeat (first | exact subPnil | refine subPcons 3 rfl ?_))
                · skip
                  refine AW.split rfl (fun h82 => ?_) (fun h82 => ?_) <;> (try simp only [decide_eq_true_eq, decide_eq_false_iff_not, beq_iff_eq, beq_eq_false_iff_ne, bne_iff_ne, bne_eq_false_iff_eq, Bool.not_eq_true', Bool.not_eq_false', Bool.not_eq_true, Bool.not_eq_false, ne_eq, Int.not_lt, Int.not_le, Bool.and_eq_true, Bool.or_eq_true, Bool.or_eq_false_iff, Bool.and_eq_false_imp, strOf_toList, Decidable.not_not] at h82)
                  · skip
                    have hans := hans ((D.length : Int) + 1)
                    have hput := entN_put (num := num) (k := (D.length : Int) + 1) hnd
                    have hD2 := hD.put ⟨hi0, hin⟩ hnd
                    have hbk2 := hbk.put (k := (D.length : Int) + 1) hnd
                    have hrep : Sp Tryz.prog 22 [aggM (reqT i), .val (.int .i64 68), roO [], roB [u8 ((D.length : Int) + 1)]] [] (Is (resM (ackT i ((D.length : Int) + 1), 0))) := by
                      have := reply_fn (reqT i) 68 [] [u8 ((D.length : Int) + 1)] ⟨by simp, by simp, by simp, by simp⟩
                      rw [reqT_reply ⟨hi0, by omega⟩] at this
                      exact this
                    refine AW.seq ?_
                    refine AW.region ?_
                    refine AO.op (O.move rfl rfl) rfl rfl rfl ?_
                    refine AO.op (O.add rfl rfl rfl (by exact wI64 (by omega))) rfl rfl rfl ?_
                    refine AO.op (O.assign rfl rfl) rfl rfl rfl ?_
                    refine AO.nil ?_
                    refine AQ.thenN ?_
                    refine AW.seq ?_
                    refine AW.seq ?_
                    refine AW.region ?_
                    refine AO.op (O.move rfl rfl) rfl rfl rfl ?_
                    refine AO.op (O.fieldAddr rfl rfl) rfl rfl rfl ?_
                    refine AO.op (O.fieldAddr rfl rfl) rfl rfl rfl ?_
                    refine AO.op (O.load rfl rfl (by repeat (first | exact List.Mem.head _ | refine List.Mem.tail _ ?_)) (by rfl)) rfl rfl rfl ?_
                    refine AO.op (O.lookOkI rfl rfl rfl (by repeat (first | exact List.Mem.head _ | refine List.Mem.tail _ ?_)) (by exact KeyA.int Tryz.underlying3 (wfI64 ⟨by omega, by omega⟩))) rfl rfl rfl ?_
                    refine AO.op (O.move rfl rfl) rfl rfl rfl ?_
                    refine AO.op (O.extract rfl rfl rfl) rfl rfl rfl ?_
                    refine AO.op (O.extract rfl rfl rfl) rfl rfl rfl ?_
                    refine AO.op (O.assign rfl rfl) rfl rfl rfl ?_
                    refine AO.op (O.assign rfl rfl) rfl rfl rfl ?_
                    refine AO.nil ?_
                    refine AQ.thenN ?_
                    refine AW.seq ?_
                    refine AW.region ?_
                    refine AO.op (O.move rfl rfl) rfl rfl rfl ?_
                    refine AO.nil ?_
                    refine AQ.thenN ?_
                    refine AW.split rfl (fun htw => ?_) (fun htw => ?_) <;> (try simp only [decide_eq_true_eq, decide_eq_false_iff_not, beq_iff_eq, beq_eq_false_iff_ne, bne_iff_ne, bne_eq_false_iff_eq, Bool.not_eq_true', Bool.not_eq_false', Bool.not_eq_true, Bool.not_eq_false, ne_eq, Int.not_lt, Int.not_le, Bool.and_eq_true, Bool.or_eq_true, Bool.or_eq_false_iff, Bool.and_eq_false_imp, strOf_toList, Decidable.not_not] at htw)
                    · skip
                      exact absurd (of_decide_eq_true ((entN_has num D i).symm.trans htw)) hnd
                    · skip
                      refine AW.skip ?_
                      refine AQ.thenN ?_
                      refine AW.seq ?_
                      refine AW.region ?_
                      refine AO.op (O.move rfl rfl) rfl rfl rfl ?_
                      refine AO.op (O.fieldAddr rfl rfl) rfl rfl rfl ?_
                      refine AO.op (O.fieldAddr rfl rfl) rfl rfl rfl ?_
                      refine AO.op (O.load rfl rfl (by repeat (first | exact List.Mem.head _ | refine List.Mem.tail _ ?_)) (by rfl)) rfl rfl rfl ?_
                      refine AO.op (O.move rfl rfl) rfl rfl rfl ?_
                      (refine AO.mapPut (i := 5) rfl rfl rfl rfl rfl rfl rfl (by exact KeyA.int Tryz.underlying3 (wfI64 ⟨by omega, by omega⟩)) (plainElem_int TyD.ax (by exact wfI64 ⟨by omega, by omega⟩)) (by ( unfold maxLen; omega)) (by (dsimp only [List.set, List.append, List.cons_append, List.nil_append, roB_cells, roI_cells, roO_cells, roW_cells, roU_cells, roH_cells, splice, ofConst, AV.cells, List.map, List.map_cons, List.map_nil, List.take, List.drop, Nat.zero_add, Nat.add_zero, Nat.reduceAdd, Nat.reduceMul, Nat.zero_mul, Value.cells, List.toList_toArray, zerosA, List.replicate, List.flatten, List.append_nil]; done)) ?_)
                      refine AO.nil ?_
                      refine AQ.thenN ?_
                      refine AW.seq ?_
                      refine AW.region ?_
                      refine AO.op (O.fieldAddr rfl rfl) rfl rfl rfl ?_
                      (refine AO.op (O.loadK rfl rfl (by repeat (first | exact List.Mem.head _ | refine List.Mem.tail _ ?_)) (by (dsimp only [List.set, List.append, List.cons_append, List.nil_append, roB_cells, roI_cells, roO_cells, roW_cells, roU_cells, roH_cells, splice, ofConst, AV.cells, List.map, List.map_cons, List.map_nil, List.take, List.drop, Nat.zero_add, Nat.add_zero, Nat.reduceAdd, Nat.reduceMul, Nat.zero_mul, Value.cells, List.toList_toArray, zerosA, List.replicate, List.flatten, List.append_nil]; done)) (by rfl)) rfl rfl rfl ?_)
                      refine AO.op (O.move rfl rfl) rfl rfl rfl ?_
                      refine AO.op (O.conv rfl rfl wU8any) rfl rfl rfl ?_
                      refine AO.opB (O.buildSlice rfl rfl rfl (by rfl) (by rfl) (by rfl) (by rfl)) rfl rfl rfl ?_
                      intro B12
                      refine AO.g ?_
                      (refine G.freezeSl 0 195 rfl rfl ⟨Nat.le_refl _, by unfold maxLen; omega⟩ ?_)
                      refine G.unfull 195 rfl ?_
                      refine AO.u ?_
                      dsimp only [List.eraseIdx]
                      (refine AO.op (O.callC rfl Tryz.func22 rfl rfl rfl (hrep) (by (repeat (first | exact CoeL.nil | refine CoeL.cons Coe.rfl ?_ | refine CoeL.cons Coe.nil ?_)); done)) rfl rfl rfl ?_)
                      refine AO.op (O.move rfl rfl) rfl rfl rfl ?_
                      refine AO.op (O.extract rfl rfl rfl) rfl rfl rfl ?_
                      refine AO.op (O.extract rfl rfl rfl) rfl rfl rfl ?_
                      refine AO.opB (O.alloc rfl (by (dsimp only [List.set, List.append, List.cons_append, List.nil_append, roB_cells, roI_cells, roO_cells, roW_cells, roU_cells, roH_cells, splice, ofConst, AV.cells, List.map, List.map_cons, List.map_nil, List.take, List.drop, Nat.zero_add, Nat.add_zero, Nat.reduceAdd, Nat.reduceMul, Nat.zero_mul, Value.cells, List.toList_toArray, zerosA, List.replicate, List.flatten, List.append_nil]; done)) (by rfl)) rfl rfl rfl ?_
                      intro B13
                      (refine AO.store (i := 0) rfl rfl rfl rfl rfl rfl (by rfl) (by rfl) (by rfl) (by (dsimp only [List.set, List.append, List.cons_append, List.nil_append, roB_cells, roI_cells, roO_cells, roW_cells, roU_cells, roH_cells, splice, ofConst, AV.cells, List.map, List.map_cons, List.map_nil, List.take, List.drop, Nat.zero_add, Nat.add_zero, Nat.reduceAdd, Nat.reduceMul, Nat.zero_mul, Value.cells, List.toList_toArray, zerosA, List.replicate, List.flatten, List.append_nil]; done)) (by (dsimp only [List.set, List.append, List.cons_append, List.nil_append, roB_cells, roI_cells, roO_cells, roW_cells, roU_cells, roH_cells, splice, ofConst, AV.cells, List.map, List.map_cons, List.map_nil, List.take, List.drop, Nat.zero_add, Nat.add_zero, Nat.reduceAdd, Nat.reduceMul, Nat.zero_mul, Value.cells, List.toList_toArray, zerosA, List.replicate, List.flatten, List.append_nil]; done)) ?_)
                      refine AO.op (O.assign rfl rfl) rfl rfl rfl ?_
                      refine AO.nil ?_
                      refine AQ.thenN ?_
                      refine AW.seq ?_
                      refine AW.seq ?_
                      refine AW.region ?_
                      refine AO.op (O.move rfl rfl) rfl rfl rfl ?_
                      refine AO.op (O.neq rfl rfl rfl (by exact bne_eq_false_iff_eq.2 (by omega))) rfl rfl rfl ?_
                      refine AO.nil ?_
                      refine AQ.thenN ?_
                      refine AW.split rfl (fun hre => ?_) (fun hre => ?_) <;> (try simp only [decide_eq_true_eq, decide_eq_false_iff_not, beq_iff_eq, beq_eq_false_iff_ne, bne_iff_ne, bne_eq_false_iff_eq, Bool.not_eq_true', Bool.not_eq_false', Bool.not_eq_true, Bool.not_eq_false, ne_eq, Int.not_lt, Int.not_le, Bool.and_eq_true, Bool.or_eq_true, Bool.or_eq_false_iff, Bool.and_eq_false_imp, strOf_toList, Decidable.not_not] at hre)
                      · skip
                        exact absurd hre (by simp)
                      · skip
                        refine AW.skip ?_
                        refine AQ.thenN ?_
                        refine AW.seq ?_
                        refine AW.region ?_
                        (refine AO.op (O.loadK rfl rfl (by repeat (first | exact List.Mem.head _ | refine List.Mem.tail _ ?_)) (by (dsimp only [List.set, List.append, List.cons_append, List.nil_append, roB_cells, roI_cells, roO_cells, roW_cells, roU_cells, roH_cells, splice, ofConst, AV.cells, List.map, List.map_cons, List.map_nil, List.take, List.drop, Nat.zero_add, Nat.add_zero, Nat.reduceAdd, Nat.reduceMul, Nat.zero_mul, Value.cells, List.toList_toArray, zerosA, List.replicate, List.flatten, List.append_nil]; done)) (by rfl)) rfl rfl rfl ?_)
                        refine AO.op (O.fieldAddr rfl rfl) rfl rfl rfl ?_
                        refine AO.op (O.fieldAddr rfl rfl) rfl rfl rfl ?_
                        refine AO.op (O.load rfl rfl (by repeat (first | exact List.Mem.head _ | refine List.Mem.tail _ ?_)) (by rfl)) rfl rfl rfl ?_
                        (refine AO.op (O.loadK rfl rfl (by repeat (exact List.Mem.head _)) (by (dsimp only [List.set, List.append, List.cons_append, List.nil_append, roB_cells, roI_cells, roO_cells, roW_cells, roU_cells, roH_cells, splice, ofConst, AV.cells, List.map, List.map_cons, List.map_nil, List.take, List.drop, Nat.zero_add, Nat.add_zero, Nat.reduceAdd, Nat.reduceMul, Nat.zero_mul, Value.cells, List.toList_toArray, zerosA, List.replicate, List.flatten, List.append_nil]; done)) (by rfl)) rfl rfl rfl ?_)
                        refine AO.op (O.move rfl rfl) rfl rfl rfl ?_
                        refine AO.op (O.call rfl Tryz.func23 rfl rfl rfl (answer_fn r1 _ _ (ackT i ((D.length : Int) + 1)) _ hbdR)) rfl rfl rfl ?_
                        refine AO.op (O.move rfl rfl) rfl rfl rfl ?_
                        refine AO.op (O.extract rfl rfl rfl) rfl rfl rfl ?_
                        refine AO.op (O.extract rfl rfl rfl) rfl rfl rfl ?_
                        refine AO.op (O.extract rfl rfl rfl) rfl rfl rfl ?_
                        (refine AO.store (i := 7) rfl rfl rfl rfl rfl rfl (by rfl) (by rfl) (by rfl) (by (dsimp only [List.set, List.append, List.cons_append, List.nil_append, roB_cells, roI_cells, roO_cells, roW_cells, roU_cells, roH_cells, splice, ofConst, AV.cells, List.map, List.map_cons, List.map_nil, List.take, List.drop, Nat.zero_add, Nat.add_zero, Nat.reduceAdd, Nat.reduceMul, Nat.zero_mul, Value.cells, List.toList_toArray, zerosA, List.replicate, List.flatten, List.append_nil]; done)) (by (dsimp only [List.set, List.append, List.cons_append, List.nil_append, roB_cells, roI_cells, roO_cells, roW_cells, roU_cells, roH_cells, splice, ofConst, AV.cells, List.map, List.map_cons, List.map_nil, List.take, List.drop, Nat.zero_add, Nat.add_zero, Nat.reduceAdd, Nat.reduceMul, Nat.zero_mul, Value.cells, List.toList_toArray, zerosA, List.replicate, List.flatten, List.append_nil]; done)) ?_)
                        (refine AO.store (i := 1) rfl rfl rfl rfl rfl rfl (by rfl) (by rfl) (by rfl) (by (dsimp only [List.set, List.append, List.cons_append, List.nil_append, roB_cells, roI_cells, roO_cells, roW_cells, roU_cells, roH_cells, splice, ofConst, AV.cells, List.map, List.map_cons, List.map_nil, List.take, List.drop, Nat.zero_add, Nat.add_zero, Nat.reduceAdd, Nat.reduceMul, Nat.zero_mul, Value.cells, List.toList_toArray, zerosA, List.replicate, List.flatten, List.append_nil]; done)) (by (dsimp only [List.set, List.append, List.cons_append, List.nil_append, roB_cells, roI_cells, roO_cells, roW_cells, roU_cells, roH_cells, splice, ofConst, AV.cells, List.map, List.map_cons, List.map_nil, List.take, List.drop, Nat.zero_add, Nat.add_zero, Nat.reduceAdd, Nat.reduceMul, Nat.zero_mul, Value.cells, List.toList_toArray, zerosA, List.replicate, List.flatten, List.append_nil]; done)) ?_)
                        refine AO.op (O.assign rfl rfl) rfl rfl rfl ?_
                        refine AO.nil ?_
                        refine AQ.thenN ?_
                        refine AW.seq ?_
                        refine AW.region ?_
                        refine AO.op (O.move rfl rfl) rfl rfl rfl ?_
                        refine AO.op (O.neq rfl rfl rfl (by exact bne_eq_false_iff_eq.2 (by omega))) rfl rfl rfl ?_
                        refine AO.nil ?_
                        refine AQ.thenN ?_
                        generalize answerR r1 0 i (ackT i ((D.length : Int) + 1)) now2 = s at *
                        obtain ⟨s1, s2, s3⟩ := s
                        dsimp only at hans ⊢
                        obtain ⟨rfl, rfl, hvs, hBs, hks⟩ := hans
                        refine AW.split rfl (fun h103 => ?_) (fun h103 => ?_) <;> (try simp only [decide_eq_true_eq, decide_eq_false_iff_not, beq_iff_eq, beq_eq_false_iff_ne, bne_iff_ne, bne_eq_false_iff_eq, Bool.not_eq_true', Bool.not_eq_false', Bool.not_eq_true, Bool.not_eq_false, ne_eq, Int.not_lt, Int.not_le, Bool.and_eq_true, Bool.or_eq_true, Bool.or_eq_false_iff, Bool.and_eq_false_imp, strOf_toList, Decidable.not_not] at h103)
                        · skip
                          exact absurd h103 (by simp)
                        · skip
                          refine AW.skip ?_
                          refine AQ.thenN ?_
                          refine AW.seq ?_
                          refine AW.region ?_
                          refine AO.op (O.move rfl rfl) rfl rfl rfl ?_
                          refine AO.op (O.eql rfl rfl rfl (by exact beq_iff_eq.2 (by omega))) rfl rfl rfl ?_
                          refine AO.op (O.move rfl rfl) rfl rfl rfl ?_
                          refine AO.no rfl rfl rfl ?_
                          refine AO.no rfl rfl rfl ?_
                          refine AO.op (O.pickT rfl rfl rfl) rfl rfl rfl ?_
                          refine AO.nil ?_
                          refine AQ.thenN ?_
                          refine AW.split rfl (fun h104 => ?_) (fun h104 => ?_) <;> (try simp only [decide_eq_true_eq, decide_eq_false_iff_not, beq_iff_eq, beq_eq_false_iff_ne, bne_iff_ne, bne_eq_false_iff_eq, Bool.not_eq_true', Bool.not_eq_false', Bool.not_eq_true, Bool.not_eq_false, ne_eq, Int.not_lt, Int.not_le, Bool.and_eq_true, Bool.or_eq_true, Bool.or_eq_false_iff, Bool.and_eq_false_imp, strOf_toList, Decidable.not_not] at h104)
                          · skip
                            have hbk3 : BackT (back ++ [(⟨ackT i ((D.length : Int) + 1), now2⟩ : Pk)]) (upd num i ((D.length : Int) + 1)) (i :: D) := hbk2.snoc (List.mem_cons_self ..) (by rw [upd_same])
                            have hgb := pksB_snoc back (ackT i ((D.length : Int) + 1)) now2
                            have hgbl : (back ++ [(⟨ackT i ((D.length : Int) + 1), now2⟩ : Pk)]).length = back.length + 1 := by rw [List.length_append]; rfl
                            refine AW.region ?_
                            refine AO.op (O.move rfl rfl) rfl rfl rfl ?_
                            (refine AO.op (O.loadK rfl rfl (by repeat (first | exact List.Mem.head _ | refine List.Mem.tail _ ?_)) (by (dsimp only [List.set, List.append, List.cons_append, List.nil_append, roB_cells, roI_cells, roO_cells, roW_cells, roU_cells, roH_cells, splice, ofConst, AV.cells, List.map, List.map_cons, List.map_nil, List.take, List.drop, Nat.zero_add, Nat.add_zero, Nat.reduceAdd, Nat.reduceMul, Nat.zero_mul, Value.cells, List.toList_toArray, zerosA, List.replicate, List.flatten, List.append_nil]; done)) (by rfl)) rfl rfl rfl ?_)
                            refine AO.op (O.move rfl rfl) rfl rfl rfl ?_
                            refine AO.op (O.build rfl rfl rfl (by rfl)) rfl rfl rfl ?_
                            refine AO.opB (O.buildSlice rfl rfl rfl (by rfl) (by rfl) (by rfl) (by rfl)) rfl rfl rfl ?_
                            intro B14
                            refine AO.g ?_
                            (refine G.freezeSl 0 224 rfl rfl ⟨Nat.le_refl _, by unfold maxLen; omega⟩ ?_)
                            refine G.unfull 224 rfl ?_
                            refine AO.u ?_
                            dsimp only [List.eraseIdx]
                            (refine AO.append' (i := 5) rfl rfl rfl rfl (by rfl) (by rfl) rfl rfl rfl (by exact SrcA.ro TyD.ax (by rfl) (Nat.le_of_ble_eq_true rfl)) (by rfl) (by (unfold maxLen; omega)) (by omega) (by (dsimp only [List.set, List.append, List.cons_append, List.nil_append, roB_cells, roI_cells, roO_cells, roW_cells, roU_cells, roH_cells, splice, ofConst, AV.cells, List.map, List.map_cons, List.map_nil, List.take, List.drop, Nat.zero_add, Nat.add_zero, Nat.reduceAdd, Nat.reduceMul, Nat.zero_mul, Value.cells, List.toList_toArray, zerosA, List.replicate, List.flatten, List.append_nil]; done)) (fun _ => by (dsimp only [List.set]; done)) ?_)
                            intro V15 hV15
                            refine AO.op (O.assign rfl rfl) rfl rfl rfl ?_
                            refine AO.nil ?_
                            refine AQ.blockN ?_
                            refine AQ.blockN ?_
                            rw [show mPut (entN num D) _ _ = _ from hput, show pksA back ++ _ = _ from hgb, ← hgbl]
                            refine AQ.loopKN _ _ _ (by omega) (⟨_, now2, n, a, s1, net, _, i :: D, upd num i ((D.length : Int) + 1), _, _, ha3', hA, hn2, hvs, hBs, hks, hnet2, hbk3, hD2, by omega, by omega, by omega, hV, ‹_›, rfl, rfl, rfl⟩) (by repeat (first | exact envNil | refine envCons rfl ?_)) (by repeat (first | exact envNil | refine envCons rfl ?_)) (by repeat (first | exact subPnil | refine subPcons 4 rfl ?_))
                          · skip
                            exact absurd h104 (by simp)
                  · skip
                    exact absurd h82 (by simp)
                skip
        · skip
          refine AW.seq ?_
          refine AW.seq ?_
          refine AW.region ?_
          refine AO.op (O.move rfl rfl) rfl rfl rfl ?_
          refine AO.op (O.lenRow rfl rfl (by repeat (first | exact List.Mem.head _ | refine List.Mem.tail _ ?_))) rfl rfl rfl ?_
          refine AO.op (O.eql rfl rfl rfl (by rfl)) rfl rfl rfl ?_
          refine AO.nil ?_
          refine AQ.thenN ?_
          refine AW.split rfl (fun hem => ?_) (fun hem => ?_) <;> (try simp only [decide_eq_true_eq, decide_eq_false_iff_not, beq_iff_eq, beq_eq_false_iff_ne, bne_iff_ne, bne_eq_false_iff_eq, Bool.not_eq_true', Bool.not_eq_false', Bool.not_eq_true, Bool.not_eq_false, ne_eq, Int.not_lt, Int.not_le, Bool.and_eq_true, Bool.or_eq_true, Bool.or_eq_false_iff, Bool.and_eq_false_imp, strOf_toList, Decidable.not_not] at hem)
          · skip
            refine AW.exit ?_
            refine AQ.thenX ?_
            refine AQ.blockY rfl ?_
            refine AQ.blockX rfl ?_
            refine AQ.loopKN _ _ _ (by omega) (⟨_, now2, n, a, b, net, back, D, num, V, V', ha2', hA, hn2, hvb, hB, hkp2, hnet2, hbk, hD, by omega, by omega, by omega, hV, hV', rfl, rfl, rfl⟩) (by repeat (first | exact envNil | refine envCons rfl ?_)) (by repeat (first | exact envNil | refine envCons rfl ?_)) (by repeat (first | exact subPnil | refine subPcons 0 rfl ?_))
          · skip
            have hnl0 : 0 < back.length := by omega
            have hz3 := nxt_in l (adv l (adv l kk)) (n := (back.length : Int)) (by omega)
            have ha3 := adv_ge l (adv l (adv l kk))
            have ha3' : adv l (adv l (adv l kk)) ≤ l.length := adv_le' ha2'
            obtain ⟨j, hj⟩ : ∃ j : Nat, nxt l (adv l (adv l kk)) (back.length : Int) = (j : Int) := ⟨(nxt l (adv l (adv l kk)) (back.length : Int)).toNat, by omega⟩
            rw [hj] at hz3
            have hjl : j < back.length := by omega
            obtain ⟨i, hiD, hqm⟩ := hbk _ (getD_mem Pk.none hjl)
            have hin := hD.inn i hiD
            have hrg := hD.rg i hiD
            have hqm' : (pk back j).m = ackT i (num i) := hqm
            obtain ⟨at_, hat⟩ : ∃ at_, at_ = (pk back j).at_ := ⟨_, rfl⟩
            have hgp : ((pksA back).drop (0 + (nxt l (adv l (adv l kk)) (back.length : Int)).toNat * 7)).take 7 = [.val (.int .i64 2), .val (.int .i64 68), .val (.int .i64 i), roB [u8 i], roO [], roB [u8 (num i)], .val (.int .i64 at_)] := by
              rw [getP hjl (by omega), hat]; simp only [cP, hqm']
            have hack := top_ack (k := num i) hA ⟨hin.1, by omega⟩ hto
            refine AW.g ?_
            refine G.openRow 1 rfl (by omega) (fun b' cap hc1 hc2 hxs hVe => ?_)
            refine AW.u ?_
            subst hVe
            refine AW.g ?_
            dsimp only [List.set]
            refine AW.u ?_
            refine AW.skip ?_
            refine AQ.thenN ?_
            refine AW.seq ?_
            refine AW.region ?_
            refine AO.op (O.move rfl rfl) rfl rfl rfl ?_
            refine AO.op (O.move rfl rfl) rfl rfl rfl ?_
            refine AO.op (O.move rfl rfl) rfl rfl rfl ?_
            refine AO.op (O.lenV rfl rfl) rfl rfl rfl ?_
            (refine AO.callM1 (i := 5) rfl rfl Tryz.func13 rfl rfl rfl rfl rfl rfl (next_fn _ _ _ _ hl (by repeat (assumption)) (by omega) (by omega)) (by (dsimp only [List.set, List.append, List.cons_append, List.nil_append, roB_cells, roI_cells, roO_cells, roW_cells, roU_cells, roH_cells, splice, ofConst, AV.cells, List.map, List.map_cons, List.map_nil, List.take, List.drop, Nat.zero_add, Nat.add_zero, Nat.reduceAdd, Nat.reduceMul, Nat.zero_mul, Value.cells, List.toList_toArray, zerosA, List.replicate, List.flatten, List.append_nil]; done)) ?_)
            refine AO.op (O.idxV rfl rfl rfl ⟨(by omega), (by omega)⟩) rfl rfl rfl ?_
            refine AO.op (O.loadK rfl rfl (by repeat (first | exact List.Mem.head _ | refine List.Mem.tail _ ?_)) (by exact hgp) (by rfl)) rfl rfl rfl ?_
            refine AO.opB (O.alloc rfl (by (dsimp only [List.set, List.append, List.cons_append, List.nil_append, roB_cells, roI_cells, roO_cells, roW_cells, roU_cells, roH_cells, splice, ofConst, AV.cells, List.map, List.map_cons, List.map_nil, List.take, List.drop, Nat.zero_add, Nat.add_zero, Nat.reduceAdd, Nat.reduceMul, Nat.zero_mul, Value.cells, List.toList_toArray, zerosA, List.replicate, List.flatten, List.append_nil]; done)) (by rfl)) rfl rfl rfl ?_
            intro B16
            (refine AO.store (i := 0) rfl rfl rfl rfl rfl rfl (by rfl) (by rfl) (by rfl) (by (dsimp only [List.set, List.append, List.cons_append, List.nil_append, roB_cells, roI_cells, roO_cells, roW_cells, roU_cells, roH_cells, splice, ofConst, AV.cells, List.map, List.map_cons, List.map_nil, List.take, List.drop, Nat.zero_add, Nat.add_zero, Nat.reduceAdd, Nat.reduceMul, Nat.zero_mul, Value.cells, List.toList_toArray, zerosA, List.replicate, List.flatten, List.append_nil]; done)) (by (dsimp only [List.set, List.append, List.cons_append, List.nil_append, roB_cells, roI_cells, roO_cells, roW_cells, roU_cells, roH_cells, splice, ofConst, AV.cells, List.map, List.map_cons, List.map_nil, List.take, List.drop, Nat.zero_add, Nat.add_zero, Nat.reduceAdd, Nat.reduceMul, Nat.zero_mul, Value.cells, List.toList_toArray, zerosA, List.replicate, List.flatten, List.append_nil]; done)) ?_)
            refine AO.nil ?_
            refine AQ.thenN ?_
            refine AW.seq ?_
            refine AW.region ?_
            refine AO.op (O.loadK rfl rfl (by repeat (first | exact List.Mem.head _ | refine List.Mem.tail _ ?_)) (by rfl) (by rfl)) rfl rfl rfl ?_
            refine AO.op (O.fieldAddr rfl rfl) rfl rfl rfl ?_
            refine AO.op (O.loadK rfl rfl (by repeat (exact List.Mem.head _)) (by rfl) (by rfl)) rfl rfl rfl ?_
            refine AO.op (O.move rfl rfl) rfl rfl rfl ?_
            refine AO.op (O.call rfl Tryz.func21 rfl rfl rfl (recv_fn a _ (ackT i (num i)) _ hbdA)) rfl rfl rfl ?_
            refine AO.op (O.move rfl rfl) rfl rfl rfl ?_
            refine AO.op (O.extract rfl rfl rfl) rfl rfl rfl ?_
            refine AO.op (O.extract rfl rfl rfl) rfl rfl rfl ?_
            refine AO.op (O.extract rfl rfl rfl) rfl rfl rfl ?_
            refine AO.op (O.extract rfl rfl rfl) rfl rfl rfl ?_
            refine AO.opB (O.alloc rfl (by (dsimp only [List.set, List.append, List.cons_append, List.nil_append, roB_cells, roI_cells, roO_cells, roW_cells, roU_cells, roH_cells, splice, ofConst, AV.cells, List.map, List.map_cons, List.map_nil, List.take, List.drop, Nat.zero_add, Nat.add_zero, Nat.reduceAdd, Nat.reduceMul, Nat.zero_mul, Value.cells, List.toList_toArray, zerosA, List.replicate, List.flatten, List.append_nil]; done)) (by rfl)) rfl rfl rfl ?_
            intro B17
            refine AO.opB (O.alloc rfl (by (dsimp only [List.set, List.append, List.cons_append, List.nil_append, roB_cells, roI_cells, roO_cells, roW_cells, roU_cells, roH_cells, splice, ofConst, AV.cells, List.map, List.map_cons, List.map_nil, List.take, List.drop, Nat.zero_add, Nat.add_zero, Nat.reduceAdd, Nat.reduceMul, Nat.zero_mul, Value.cells, List.toList_toArray, zerosA, List.replicate, List.flatten, List.append_nil]; done)) (by rfl)) rfl rfl rfl ?_
            intro B18
            (refine AO.store (i := 1) rfl rfl rfl rfl rfl rfl (by rfl) (by rfl) (by rfl) (by (dsimp only [List.set, List.append, List.cons_append, List.nil_append, roB_cells, roI_cells, roO_cells, roW_cells, roU_cells, roH_cells, splice, ofConst, AV.cells, List.map, List.map_cons, List.map_nil, List.take, List.drop, Nat.zero_add, Nat.add_zero, Nat.reduceAdd, Nat.reduceMul, Nat.zero_mul, Value.cells, List.toList_toArray, zerosA, List.replicate, List.flatten, List.append_nil]; done)) (by (dsimp only [List.set, List.append, List.cons_append, List.nil_append, roB_cells, roI_cells, roO_cells, roW_cells, roU_cells, roH_cells, splice, ofConst, AV.cells, List.map, List.map_cons, List.map_nil, List.take, List.drop, Nat.zero_add, Nat.add_zero, Nat.reduceAdd, Nat.reduceMul, Nat.zero_mul, Value.cells, List.toList_toArray, zerosA, List.replicate, List.flatten, List.append_nil]; done)) ?_)
            refine AO.op (O.assign rfl rfl) rfl rfl rfl ?_
            (refine AO.store (i := 0) rfl rfl rfl rfl rfl rfl (by rfl) (by rfl) (by rfl) (by (dsimp only [List.set, List.append, List.cons_append, List.nil_append, roB_cells, roI_cells, roO_cells, roW_cells, roU_cells, roH_cells, splice, ofConst, AV.cells, List.map, List.map_cons, List.map_nil, List.take, List.drop, Nat.zero_add, Nat.add_zero, Nat.reduceAdd, Nat.reduceMul, Nat.zero_mul, Value.cells, List.toList_toArray, zerosA, List.replicate, List.flatten, List.append_nil]; done)) (by (dsimp only [List.set, List.append, List.cons_append, List.nil_append, roB_cells, roI_cells, roO_cells, roW_cells, roU_cells, roH_cells, splice, ofConst, AV.cells, List.map, List.map_cons, List.map_nil, List.take, List.drop, Nat.zero_add, Nat.add_zero, Nat.reduceAdd, Nat.reduceMul, Nat.zero_mul, Value.cells, List.toList_toArray, zerosA, List.replicate, List.flatten, List.append_nil]; done)) ?_)
            refine AO.op (O.assign rfl rfl) rfl rfl rfl ?_
            refine AO.nil ?_
            refine AQ.thenN ?_
            refine AW.seq ?_
            refine AW.seq ?_
            refine AW.region ?_
            refine AO.op (O.move rfl rfl) rfl rfl rfl ?_
            refine AO.op (O.neq rfl rfl rfl (by exact bne_eq_false_iff_eq.2 (by omega))) rfl rfl rfl ?_
            refine AO.op (O.move rfl rfl) rfl rfl rfl ?_
            refine AO.op (O.move rfl rfl) rfl rfl rfl ?_
            refine AO.op (O.neq rfl rfl rfl (by rfl)) rfl rfl rfl ?_
            refine AO.op (O.move rfl rfl) rfl rfl rfl ?_
            refine AO.opG rfl rfl rfl (fun hp => O.move rfl rfl) ?_
            refine AO.opG rfl rfl rfl (fun hp => OpW.force 74 rfl (by exact hp) (O.neq rfl rfl rfl (by rfl))) ?_
            refine AO.op (O.pickAnd rfl rfl rfl rfl (fun h => by exact h)) rfl rfl rfl ?_
            refine AO.op (O.pickF rfl rfl rfl) rfl rfl rfl ?_
            refine AO.nil ?_
            refine AQ.thenN ?_
            refine AW.g ?_
            refine G.closeRow (b := b') 4 rfl hxs rfl hc1 hc2 ?_
            refine AW.u ?_
            refine AW.g ?_
            dsimp only [List.set]
            refine AW.u ?_
            generalize recvR a 1 (ackT i (num i)) now2 = r at *
            obtain ⟨r1, r2, r3, r4⟩ := r
            dsimp only at hack ⊢
            obtain ⟨rfl, hr2, hrA⟩ := hack
            have hg8 : ((u8 (num i)).toNat : Int) = num i := u8_val ⟨by omega, by omega⟩
            have hg9 : ((u8 i).toNat : Int) = i := u8_val ⟨hin.1, by omega⟩
            have hgm : mInt (mGet (entN num D) (.int .i64 i) (.int .i64 0)) = num i := congrArg mInt (entN_get hiD (.int .i64 0))
            have hz1' : ([u8 (num i)] : List UInt8).length = 1 := rfl
            have hz2' : ([u8 i] : List UInt8).length = 1 := rfl
            refine AW.split rfl (fun hbad => ?_) (fun hbad => ?_) <;> (try simp only [decide_eq_true_eq, decide_eq_false_iff_not, beq_iff_eq, beq_eq_false_iff_ne, bne_iff_ne, bne_eq_false_iff_eq, Bool.not_eq_true', Bool.not_eq_false', Bool.not_eq_true, Bool.not_eq_false, ne_eq, Int.not_lt, Int.not_le, Bool.and_eq_true, Bool.or_eq_true, Bool.or_eq_false_iff, Bool.and_eq_false_imp, strOf_toList, Decidable.not_not] at hbad)
            · skip
              exfalso
              rcases hr2 with rfl | rfl <;> simp at hbad
            · skip
              refine AW.skip ?_
              refine AQ.thenN ?_
              refine AW.seq ?_
              refine AW.region ?_
              (refine AO.op (O.loadK rfl rfl (by repeat (first | exact List.Mem.head _ | refine List.Mem.tail _ ?_)) (by (dsimp only [List.set, List.append, List.cons_append, List.nil_append, roB_cells, roI_cells, roO_cells, roW_cells, roU_cells, roH_cells, splice, ofConst, AV.cells, List.map, List.map_cons, List.map_nil, List.take, List.drop, Nat.zero_add, Nat.add_zero, Nat.reduceAdd, Nat.reduceMul, Nat.zero_mul, Value.cells, List.toList_toArray, zerosA, List.replicate, List.flatten, List.append_nil]; done)) (by rfl)) rfl rfl rfl ?_)
              (refine AO.store (i := 7) rfl rfl rfl rfl rfl rfl (by rfl) (by rfl) (by rfl) (by (dsimp only [List.set, List.append, List.cons_append, List.nil_append, roB_cells, roI_cells, roO_cells, roW_cells, roU_cells, roH_cells, splice, ofConst, AV.cells, List.map, List.map_cons, List.map_nil, List.take, List.drop, Nat.zero_add, Nat.add_zero, Nat.reduceAdd, Nat.reduceMul, Nat.zero_mul, Value.cells, List.toList_toArray, zerosA, List.replicate, List.flatten, List.append_nil]; done)) (by (dsimp only [List.set, List.append, List.cons_append, List.nil_append, roB_cells, roI_cells, roO_cells, roW_cells, roU_cells, roH_cells, splice, ofConst, AV.cells, List.map, List.map_cons, List.map_nil, List.take, List.drop, Nat.zero_add, Nat.add_zero, Nat.reduceAdd, Nat.reduceMul, Nat.zero_mul, Value.cells, List.toList_toArray, zerosA, List.replicate, List.flatten, List.append_nil]; done)) ?_)
              refine AO.nil ?_
              refine AQ.thenN ?_
              refine AW.seq ?_
              refine AW.regionD 38 (by kernel_rfl) (by kernel_rfl) ?_
              simp only [List.take_succ_cons, List.take_zero, List.drop_succ_cons, List.drop_zero]
              refine FA.op (O.fieldAddr rfl rfl) rfl rfl rfl rfl ?_
              refine FA.op (O.fieldAddr rfl rfl) rfl rfl rfl rfl ?_
              refine FA.op (O.load rfl rfl (by repeat (first | exact List.Mem.head _ | refine List.Mem.tail _ ?_)) (by rfl)) rfl rfl rfl rfl ?_
              refine FA.op (O.lenR rfl rfl) rfl rfl rfl rfl ?_
              refine FA.op (O.neq rfl rfl rfl (by exact bne_eq_false_iff_eq.2 (by omega))) rfl rfl rfl rfl ?_
              refine FA.op (O.move rfl rfl) rfl rfl rfl rfl ?_
              refine FA.op (O.fieldAddr rfl rfl) rfl rfl rfl rfl ?_
              refine FA.op (O.fieldAddr rfl rfl) rfl rfl rfl rfl ?_
              refine FA.op (O.load rfl rfl (by repeat (first | exact List.Mem.head _ | refine List.Mem.tail _ ?_)) (by rfl)) rfl rfl rfl rfl ?_
              refine FA.op (O.lenR rfl rfl) rfl rfl rfl rfl ?_
              refine FA.op (O.neq rfl rfl rfl (by exact bne_eq_false_iff_eq.2 (by omega))) rfl rfl rfl rfl ?_
              refine FA.op (O.pickF rfl rfl rfl) rfl rfl rfl rfl ?_
              refine FA.op (O.move rfl rfl) rfl rfl rfl rfl ?_
              refine FA.op (O.fieldAddr rfl rfl) rfl rfl rfl rfl ?_
              refine FA.op (O.fieldAddr rfl rfl) rfl rfl rfl rfl ?_
              refine FA.op (O.load rfl rfl (by repeat (first | exact List.Mem.head _ | refine List.Mem.tail _ ?_)) (by rfl)) rfl rfl rfl rfl ?_
              refine FA.op (O.idxR rfl rfl rfl ⟨(by omega), (by omega)⟩) rfl rfl rfl rfl ?_
              refine FA.op (O.loadR rfl rfl (by rfl)) rfl rfl rfl rfl ?_
              refine FA.op (O.conv rfl rfl (by exact wI64 (by omega))) rfl rfl rfl rfl ?_
              refine FA.op (O.move rfl rfl) rfl rfl rfl rfl ?_
              refine FA.op (O.fieldAddr rfl rfl) rfl rfl rfl rfl ?_
              refine FA.op (O.fieldAddr rfl rfl) rfl rfl rfl rfl ?_
              refine FA.op (O.load rfl rfl (by repeat (first | exact List.Mem.head _ | refine List.Mem.tail _ ?_)) (by rfl)) rfl rfl rfl rfl ?_
              refine FA.op (O.lookI rfl rfl rfl (by repeat (first | exact List.Mem.head _ | refine List.Mem.tail _ ?_)) (by exact KeyA.int Tryz.underlying3 (wfI64 ⟨by omega, by omega⟩))) rfl rfl rfl rfl ?_
              refine FA.op (O.neq rfl rfl rfl (by exact bne_eq_false_iff_eq.2 (by omega))) rfl rfl rfl rfl ?_
              refine FA.op (O.pickF rfl rfl rfl) rfl rfl rfl rfl ?_
              refine FA.op (O.move rfl rfl) rfl rfl rfl rfl ?_
              refine FA.op (O.fieldAddr rfl rfl) rfl rfl rfl rfl ?_
              refine FA.op (O.fieldAddr rfl rfl) rfl rfl rfl rfl ?_
              refine FA.op (O.load rfl rfl (by repeat (first | exact List.Mem.head _ | refine List.Mem.tail _ ?_)) (by rfl)) rfl rfl rfl rfl ?_
              refine FA.op (O.idxR rfl rfl rfl ⟨(by omega), (by omega)⟩) rfl rfl rfl rfl ?_
              refine FA.op (O.loadR rfl rfl (by rfl)) rfl rfl rfl rfl ?_
              refine FA.op (O.conv rfl rfl (by exact wI64 (by omega))) rfl rfl rfl rfl ?_
              refine FA.op (O.fieldAddr rfl rfl) rfl rfl rfl rfl ?_
              refine FA.op (O.fieldAddr rfl rfl) rfl rfl rfl rfl ?_
              refine FA.op (O.load rfl rfl (by repeat (first | exact List.Mem.head _ | refine List.Mem.tail _ ?_)) (by rfl)) rfl rfl rfl rfl ?_
              refine FA.op (O.neq rfl rfl rfl (by exact bne_eq_false_iff_eq.2 (by omega))) rfl rfl rfl rfl ?_
              refine FA.op (O.pickF rfl rfl rfl) rfl rfl rfl rfl ?_
              refine FA.nil ?_
              simp only [chosen, List.nil_append, List.cons_append, List.append_nil]
              refine AO.nil ?_
              refine AQ.thenN ?_
              refine AW.condF rfl ?_
              refine AW.skip ?_
              refine AQ.blockN ?_
              refine AQ.blockN ?_
              refine AQ.loopKN _ _ _ (by omega) (⟨_, now2, n, r1, b, net, back, D, num, V, _, ha3', hrA, hn2, hvb, hB, hkp2, hnet2, hbk, hD, by omega, by omega, by omega, hV, hV', rfl, rfl, rfl⟩) (by repeat (first | exact envNil | refine envCons rfl ?_)) (by repeat (first | exact envNil | refine envCons rfl ?_)) (by repeat (first | exact subPnil | refine subPcons 3 rfl ?_))
    · skip
      refine AW.exit ?_
      refine AQ.thenX ?_
      refine AQ.loopX ?_
      refine AQ.blockX rfl ?_
      refine AQ.thenN ?_
      refine AW.seq ?_
      refine AW.region ?_
      refine AO.op (O.move rfl rfl) rfl rfl rfl ?_
      refine AO.op (O.move rfl rfl) rfl rfl rfl ?_
      refine AO.op (O.leq rfl rfl rfl (by exact bTrue (by omega))) rfl rfl rfl ?_
      refine AO.op (O.move rfl rfl) rfl rfl rfl ?_
      refine AO.op (O.move rfl rfl) rfl rfl rfl ?_
      refine AO.op (O.lenM rfl rfl (by repeat (first | exact List.Mem.head _ | refine List.Mem.tail _ ?_))) rfl rfl rfl ?_
      refine AO.op (O.move rfl rfl) rfl rfl rfl ?_
      refine AO.op (O.eql rfl rfl rfl (by exact beq_iff_eq.2 (by omega))) rfl rfl rfl ?_
      refine AO.op (O.pickT rfl rfl rfl) rfl rfl rfl ?_
      refine AO.op (O.move rfl rfl) rfl rfl rfl ?_
      refine AO.callK hK notFoot_nil rfl rfl Tryz.func8 rfl rfl rfl rfl rfl (awakeT_fn) ?_
      refine AO.op (O.pickT rfl rfl rfl) rfl rfl rfl ?_
      refine AO.op (O.assign rfl rfl) rfl rfl rfl ?_
      refine AO.nil ?_
      refine AQ.thenN ?_
      refine AW.ret ?_
      refine AQ.ret1 rfl rfl ⟨_, List.nil_sublist _, .nil⟩ (⟨rfl, rfl⟩)
end Go.Proofs.YtoonnnifelnaiaaGreatDoor.By

namespace Go.Proofs.YtoonnnifelnaiaaGreatDoor.A
open Go.ChangeShapes Go.WideShapes Go.ChangeAt Go.RowKit Go.Deep L
set_option linter.unusedVariables false
set_option maxRecDepth 20000
set_option linter.unusedSimpArgs false
theorem law_contractK {f : FuncId} {fn : Func} {s : ChangeSpec} {H : Type} {K : World → Prop} (enc : TypeId × Value → H) {ts : List TypeId} {φs : List (AV → Prop)} (hp : fn.params.toList = ts) (hr : ReadsL Tryz.prog ts φs)
    (h : AllOf φs fun xs => SpK K Tryz.prog f xs [] (Is (.val (.bool true)))) {W : World} {base : Nat} {args : Array Value} {ds gs : List (DataW H)} {before : List MemPlace} (hK : K W)
    (hval : ∀ (j : Nat) t v, fn.params[j]? = some t → args[j]? = some v → Value.okWide Tryz.prog W .any base t v)
    (hW : DataW.Whole enc Tryz.prog fn.params.toList s.vars false W args.toList ds gs before)
    (post : ∀ W', Ext W W' → s.post enc Tryz.prog fn false true false false W args (.bool true) W') :
    Calls Tryz.prog f args W fun e W' => ∃ v, e = .returned v ∧ s.post enc Tryz.prog fn false true false false W args v W' := by
  obtain ⟨p, q, hA, hV, rfl, hfz, hnd⟩ := hW
  rw [hp] at hA
  obtain ⟨xs, hS, hR⟩ := readAll (b0 := base) hr h (fun j t v h1 h2 => hval j t v (by rw [← Array.getElem?_toList, hp]; exact h1) (by rw [← Array.getElem?_toList]; exact h2)) hA
  have hc := hS W (Old W) args.toList hK (fun b hb => hb) (fun e he => by cases he) .nil hR
  rw [Array.toArray_toList] at hc
  refine hc.mono ?_
  rintro e W' ⟨u, r, H', R', rfl, ⟨rfl, rfl⟩, hs, hv⟩
  obtain rfl := hv.val_inv
  exact ⟨_, rfl, post W' (hs.mods.mono fun b _ ⟨e, he, _⟩ => by cases he)⟩
/-- A listed variable that is an array of strings. -/
theorem reads_strs {P : Program} {w : World} {l : List (String × DataW Unit)} {n : String} {ss : List (List UInt8)} {g k e : Nat} {ty : TypeId} (h : laidMet P l w) (hk0 : 0 < k) (hm : (n, DataW.agg (ss.map fun s => .lit (.string s))) ∈ l)
    (hg : P.globalNamed n = some g) (ht : (P.globals[g]?).map (·.type) = some ty) (hu : P.underlying ty = some (.array k e)) (hk : ss.length = k) (he : P.underlying e = some .string) (hc : P.cellsOf e = 1) (hct : P.cellsOf ty = k) :
    GK g (ss.map fun s => .string ⟨s.toArray⟩) w := by
  obtain ⟨ps, hv, hnd, hp⟩ := h
  have key : ∀ (l : List (String × DataW Unit)) (ps : List MemPlace), DataW.LaidVars P w l ps → ∀ n d, (n, d) ∈ l →
      ∃ g t cs fuel p, P.globalNamed n = some g ∧ (P.globals[g]?).map (·.type) = some t ∧ w.var? P n = some cs ∧ DataW.trod (fun _ => ()) P w 0 (fun _ => true) false fuel t cs.toList = some (d, p) ∧ ∀ x ∈ MemPlace.row ⟨g, 0, none⟩ cs.size, x ∈ ps := by
    intro l
    induction l with
    | nil => intro _ _ _ _ hm; cases hm
    | cons y r ih =>
      obtain ⟨n', d'⟩ := y
      intro ps h n d hm
      obtain ⟨g, t, cs, fuel, p, q, h1, h2, h3, h4, h5, h6⟩ := h
      rcases List.mem_cons.1 hm with e | e
      · cases e
        exact ⟨g, t, cs, fuel, p, h1, h2, h3, h4, fun x hx => by rw [h6]; simp [hx]⟩
      · obtain ⟨g', t', cs', fuel', p', a1, a2, a3, a4, a5⟩ := ih q h5 n d e
        exact ⟨g', t', cs', fuel', p', a1, a2, a3, a4, fun x hx => by rw [h6]; simp [a5 x hx]⟩
  obtain ⟨g', t', cs, fuel, p, a1, a2, a3, a4, a5⟩ := key _ _ hv _ _ hm
  obtain rfl : g = g' := Option.some.inj (hg.symm.trans a1)
  obtain rfl : ty = t' := Option.some.inj (ht.symm.trans a2)
  obtain ⟨xs, m, rfl, hx, hl, hxl, hall⟩ := DataW.trod_array hu a4
  have hxs : xs.map (·.1) = ss.map fun s => (DataW.lit (.string s) : DataW Unit) := by
    have := congrArg Prod.fst hx
    simpa using this.symm
  have hcs : cs.toList = ss.map fun s => Value.string ⟨s.toArray⟩ := by
    apply List.ext_getElem?
    intro i
    by_cases hi : i < k
    · have h1 := hall i hi
      obtain ⟨b, hb⟩ : ∃ b, xs[i]? = some b := ⟨xs[i]'(by omega), List.getElem?_eq_getElem (by omega)⟩
      rw [hb, hc] at h1
      obtain ⟨s, hcs, rfl, _⟩ := DataW.trod_string he h1
      have h2 : cs.toList[i]? = some (.string s) := by
        have := congrArg (·[0]?) hcs
        simpa [List.getElem?_take, List.getElem?_drop] using this
      have h3 : (xs.map (·.1))[i]? = some (DataW.lit (.string s.data.toList) : DataW Unit) := by simp [hb]
      rw [hxs] at h3
      simp only [List.getElem?_map, Option.map_eq_some_iff, DataW.lit.injEq, Lit.string.injEq] at h3
      obtain ⟨z', hz', rfl⟩ := h3
      rw [h2, List.getElem?_map, hz']
      simp
    · rw [List.getElem?_eq_none (by rw [hl, hct]; omega), List.getElem?_eq_none (by rw [List.length_map]; omega)]
  have hsz : cs.size = k := by rw [← hct, ← hl]; simp
  simp only [World.var?, a1, Option.bind_some] at a3
  have hcell : ∃ c T fr, w.heap[g]? = some (.cells c T fr) ∧ c = cs := by
    split at a3
    · rename_i c T fr hh
      exact ⟨c, T, fr, hh, by simpa using a3⟩
    · cases a3
  obtain ⟨c, T, fr, hh, rfl⟩ := hcell
  obtain ⟨⟨c', T', hh'⟩, _⟩ := hp g 0 (a5 _ (by unfold MemPlace.row; rw [List.mem_map]; exact ⟨0, List.mem_range.2 (by omega), rfl⟩))
  rw [hh] at hh'
  cases hh'
  exact ⟨_, _, hh, hcs⟩
end Go.Proofs.YtoonnnifelnaiaaGreatDoor.A
