/-
  Texts laid together (part 3): what the statement's walk and plain law need. No condition.
-/
import Derived.Test.YtochjihddnkhcaaZ2
namespace Go.Proofs.Ytochjihddnkhcaa.By
open Go.RowKit L A
set_option linter.unusedVariables false
set_option linter.unusedSimpArgs false
attribute [local irreducible] AW AQ AO
def rcF : Nat → UInt8
  | 0 => 1
  | k + 1 => dbl (rcF k)
def wS (key : Nat → UInt8) (q : Nat) : UInt8 :=
  if h : q < 16 then key q else
    (if q % 16 < 4 then sb (wS key (q - q % 16 - 4 + (q % 16 + 1) % 4)) ^^^ (if q % 16 = 0 then rcF (q / 16 - 1) else 0) else wS key (q - 4)) ^^^ wS key (q - 16)
termination_by q
decreasing_by all_goals omega
theorem wS_key {key : Nat → UInt8} {q : Nat} (h : q < 16) : wS key q = key q := by rw [wS, dif_pos h]
theorem wS_ge {key : Nat → UInt8} {q : Nat} (h : ¬ q < 16) : wS key q = (if q % 16 < 4 then sb (wS key (q - q % 16 - 4 + (q % 16 + 1) % 4)) ^^^ (if q % 16 = 0 then rcF (q / 16 - 1) else 0) else wS key (q - 4)) ^^^ wS key (q - 16) := by
  rw [wS, dif_neg h]
/-- What is xored to the byte m of a round's key. -/
def zS (key : Nat → UInt8) (i m : Nat) : UInt8 := if m < 4 then sb (wS key (16 * i - 4 + (m + 1) % 4)) ^^^ (if m = 0 then rcF (i - 1) else 0) else wS key (16 * i + m - 4)
theorem wS_eq (key : Nat → UInt8) {i m : Nat} (hi : 1 ≤ i) (hm : m < 16) : wS key (16 * i + m) = zS key i m ^^^ wS key (16 * (i - 1) + m) := by
  rw [wS, dif_neg (by omega)]
  have h1 : (16 * i + m) % 16 = m := by omega
  have h2 : (16 * i + m) / 16 = i := by omega
  rw [h1, h2, show 16 * i + m - 16 = 16 * (i - 1) + m by omega, show 16 * i + m - m - 4 = 16 * i - 4 by omega, zS]
def cut (key : Nat → UInt8) (n q : Nat) : UInt8 := if q < n then wS key q else 0
theorem cut_get {key : Nat → UInt8} {n k j : Nat} (h : k < n) (h2 : n ≤ 176) (hj : j = k) : (arB 176 (cut key n))[j]? = some (by8 (wS key k)) := by
  rw [arB_get (k := k) (by omega) hj, cut, if_pos h]
def tz (key : Nat → UInt8) (i k j : Nat) : UInt8 := zS key i (k + (j + 4 - k % 4) % 4)
theorem tz_at (key : Nat → UInt8) (i k : Nat) : tz key i k (k % 4) = zS key i k := by
  unfold tz; congr 1; omega
theorem tz_get {key : Nat → UInt8} {i k j : Nat} (hj : j = k % 4) : (arB 4 (tz key i k))[j]? = some (by8 (zS key i k)) := by
  rw [arB_get (k := k % 4) (by omega) hj, tz_at]
theorem tz_step {key : Nat → UInt8} {i k : Nat} (q : Nat) (hq : q < 4) : (if q = k % 4 then wS key (16 * i + k) else tz key i k q) = tz key i (k + 1) q := by
  unfold tz
  by_cases h : q = k % 4
  · rw [if_pos h, zS, if_neg (by omega)]
    congr 1; omega
  · rw [if_neg h]; congr 1; omega
theorem xor0 (a : UInt8) : a ^^^ 0 = a := UInt8.xor_zero
theorem copyKey (key : Nat → UInt8) : splice (arB 176 fun _ => 0) 0 ((arB 16 key).take 16) = arB 176 (cut key 16) := by
  rw [List.take_of_length_le (Nat.le_of_eq (arB_len _ _)), arB_splice (by omega)]
  refine arB_congr fun q hq => ?_
  unfold cut
  by_cases h : q < 16
  · rw [if_pos (by omega), if_pos h, wS_key h]; rfl
  · rw [if_neg (by omega), if_neg h]
set_option maxRecDepth 20000 in
set_option maxHeartbeats 4000000 in
theorem sched_fn (key : Nat → UInt8) (xs : List AV) (hx : BoxOf xs 0 sb) : Sp Try.prog 37 [.rp xs 0, .ro false 16 (arB 16 key)] [] (Is (.agg (arB 176 (wS key)))) := by
  refine Sp.enter Try.func37 rfl _ Try.ntmps37 rfl (fun w0 R0 => ?_)
  refine AW.seq ?_
  refine AW.region ?_
  refine AO.opB (O.alloc rfl (by exact zeros_arB _) (by exact List.length_replicate)) rfl rfl rfl ?_
  intro B1
  refine AO.nil ?_
  refine AQ.thenN ?_
  refine AW.seq ?_
  refine AW.region ?_
  refine AO.op (O.idxL rfl rfl rfl (by exact ⟨by omega, by omega⟩)) rfl rfl rfl ?_
  refine AO.op (O.sliceArrK (p := 0) rfl rfl rfl rfl (by rfl) (by rfl) ⟨by omega, by omega⟩ (by omega)) rfl rfl rfl ?_
  refine AO.op (O.move rfl rfl) rfl rfl rfl ?_
  (refine AO.copyIn (i := 0) rfl rfl rfl rfl (by exact arB_len _ _) (by exact arB_one _ _) rfl (by rw [arB_len]; omega) (by exact copyKey key) rfl rfl (fun q h => by cases h; exact Nat.le_of_ble_eq_true rfl) ?_)
  rintro _ rfl
  dsimp only [List.set]
  refine AO.nil ?_
  refine AQ.thenN ?_
  refine AW.seq ?_
  refine AW.region ?_
  refine AO.op (O.assign rfl rfl) rfl rfl rfl ?_
  refine AO.nil ?_
  refine AQ.thenN ?_
  refine AW.seq ?_
  refine AW.seq ?_
  refine AW.region ?_
  refine AO.op (O.assign rfl rfl) rfl rfl rfl ?_
  refine AO.nil ?_
  refine AQ.thenN ?_
  refine AW.block ?_
  refine AW.loopK [(0, _), (4, _)] (fun nn E H => ∃ (i : Nat), (1 ≤ i ∧ i ≤ 11) ∧ nn = 11 - i ∧ E = [(5, by8 (rcF (i - 1))), (6, .val (.int .i64 (i : Int)))] ∧ H = [.blk B1 57 176 (arB 176 (cut key (16 * i)))]) _ (⟨1, by omega, rfl, rfl, rfl⟩) (by repeat (first | exact envNil | refine envCons rfl ?_)) (by repeat (first | exact envNil | refine envCons rfl ?_)) (by repeat (first | exact subPnil | refine subPcons 0 rfl ?_)) ?_
  rintro nn E H ⟨i, hi, rfl, rfl, rfl⟩
  dsimp only [List.cons_append, List.nil_append]
  refine AW.seq ?_
  refine AW.seq ?_
  refine AW.region ?_
  refine AO.op (O.move rfl rfl) rfl rfl rfl ?_
  refine AO.op (O.lss rfl rfl rfl (by rfl)) rfl rfl rfl ?_
  refine AO.nil ?_
  refine AQ.thenN ?_
  refine AW.split rfl (fun h => ?_) (fun h => ?_) <;> (try simp only [decide_eq_true_eq, decide_eq_false_iff_not, beq_iff_eq, beq_eq_false_iff_ne, bne_iff_ne, bne_eq_false_iff_eq, Bool.not_eq_true', Bool.not_eq_false', Bool.not_eq_true, Bool.not_eq_false, ne_eq, Int.not_lt, Int.not_le, Bool.and_eq_true, Bool.or_eq_true, Bool.or_eq_false_iff, Bool.and_eq_false_imp, strOf_toList, Decidable.not_not] at h)
  · skip
    have hi' : i < 11 := by omega
    have hlast : ∀ j : Nat, j < 4 → (arB 176 (cut key (16 * i)))[0 + ((i : Int) - 1).toNat * 16 + 12 * 1 + j * 1]? = some (by8 (wS key (16 * i - 4 + j))) := fun j hj => cut_get (by omega) (by omega) (by omega)
    have hl0 := hlast 0 (by omega)
    have hl1 := hlast 1 (by omega)
    have hl2 := hlast 2 (by omega)
    have hl3 := hlast 3 (by omega)
    refine AW.skip ?_
    refine AQ.thenN ?_
    refine AW.seq ?_
    refine AW.block ?_
    refine AW.seq ?_
    refine AW.region ?_
    refine AO.op (O.move rfl rfl) rfl rfl rfl ?_
    refine AO.op (O.sub rfl rfl rfl (by exact wI64 (by omega))) rfl rfl rfl ?_
    refine AO.op (O.idxL rfl rfl rfl (by exact ⟨by omega, by omega⟩)) rfl rfl rfl ?_
    refine AO.op (O.sliceArrK (p := 12) rfl rfl rfl rfl (by rfl) (by rfl) ⟨by omega, by omega⟩ (by omega)) rfl rfl rfl ?_
    refine AO.op (O.assign rfl rfl) rfl rfl rfl ?_
    refine AO.nil ?_
    refine AQ.thenN ?_
    refine AW.seq ?_
    refine AW.regionD 36 (by kernel_rfl) (by kernel_rfl) ?_
    simp only [List.take_succ_cons, List.take_zero, List.drop_succ_cons, List.drop_zero]
    refine FA.op (O.move rfl rfl) rfl rfl rfl rfl ?_
    refine FA.op (O.move rfl rfl) rfl rfl rfl rfl ?_
    refine FA.op (O.idxV rfl rfl rfl (by exact ⟨by omega, by omega⟩)) rfl rfl rfl rfl ?_
    refine FA.op (O.load rfl rfl (by repeat (exact List.Mem.head _)) (by exact hl1)) rfl rfl rfl rfl ?_
    refine FA.op (O.nilCheckR rfl rfl) rfl rfl rfl rfl ?_
    refine FA.op (O.fieldAddrR rfl rfl) rfl rfl rfl rfl ?_
    refine FA.op (O.idxLR rfl rfl rfl (by exact u8ix _)) rfl rfl rfl rfl ?_
    refine FA.op (O.loadR rfl rfl (by exact box_at1 hx _)) rfl rfl rfl rfl ?_
    refine FA.op (O.move rfl rfl) rfl rfl rfl rfl ?_
    refine FA.op (O.xor_ rfl rfl rfl xorU8) rfl rfl rfl rfl ?_
    refine FA.op (O.move rfl rfl) rfl rfl rfl rfl ?_
    refine FA.op (O.move rfl rfl) rfl rfl rfl rfl ?_
    refine FA.op (O.idxV rfl rfl rfl (by exact ⟨by omega, by omega⟩)) rfl rfl rfl rfl ?_
    refine FA.op (O.load rfl rfl (by repeat (exact List.Mem.head _)) (by exact hl2)) rfl rfl rfl rfl ?_
    refine FA.op (O.nilCheckR rfl rfl) rfl rfl rfl rfl ?_
    refine FA.op (O.fieldAddrR rfl rfl) rfl rfl rfl rfl ?_
    refine FA.op (O.idxLR rfl rfl rfl (by exact u8ix _)) rfl rfl rfl rfl ?_
    refine FA.op (O.loadR rfl rfl (by exact box_at1 hx _)) rfl rfl rfl rfl ?_
    refine FA.op (O.move rfl rfl) rfl rfl rfl rfl ?_
    refine FA.op (O.move rfl rfl) rfl rfl rfl rfl ?_
    refine FA.op (O.idxV rfl rfl rfl (by exact ⟨by omega, by omega⟩)) rfl rfl rfl rfl ?_
    refine FA.op (O.load rfl rfl (by repeat (exact List.Mem.head _)) (by exact hl3)) rfl rfl rfl rfl ?_
    refine FA.op (O.nilCheckR rfl rfl) rfl rfl rfl rfl ?_
    refine FA.op (O.fieldAddrR rfl rfl) rfl rfl rfl rfl ?_
    refine FA.op (O.idxLR rfl rfl rfl (by exact u8ix _)) rfl rfl rfl rfl ?_
    refine FA.op (O.loadR rfl rfl (by exact box_at1 hx _)) rfl rfl rfl rfl ?_
    refine FA.op (O.move rfl rfl) rfl rfl rfl rfl ?_
    refine FA.op (O.move rfl rfl) rfl rfl rfl rfl ?_
    refine FA.op (O.idxV rfl rfl rfl (by exact ⟨by omega, by omega⟩)) rfl rfl rfl rfl ?_
    refine FA.op (O.load rfl rfl (by repeat (exact List.Mem.head _)) (by exact hl0)) rfl rfl rfl rfl ?_
    refine FA.op (O.nilCheckR rfl rfl) rfl rfl rfl rfl ?_
    refine FA.op (O.fieldAddrR rfl rfl) rfl rfl rfl rfl ?_
    refine FA.op (O.idxLR rfl rfl rfl (by exact u8ix _)) rfl rfl rfl rfl ?_
    refine FA.op (O.loadR rfl rfl (by exact box_at1 hx _)) rfl rfl rfl rfl ?_
    refine FA.op (O.build rfl rfl rfl (by rfl)) rfl rfl rfl rfl ?_
    (refine FA.opN (O.alloc rfl (by (dsimp only [List.set, List.append, List.cons_append, List.nil_append, splice, ofConst, AV.cells, List.map, List.map_cons, List.map_nil, List.take, List.drop, Nat.zero_add, Nat.add_zero, Nat.reduceAdd, Nat.reduceMul, Nat.zero_mul, Value.cells, List.toList_toArray, zerosA, List.replicate, List.flatten, List.append_nil]; done)) (by rfl)) rfl rfl rfl rfl ?_)
    refine FA.nil ?_
    simp only [chosen, List.nil_append, List.cons_append, List.append_nil]
    rintro _ _ ⟨B2, rfl, rfl⟩
    simp only [List.cons_append, List.nil_append]
    (refine AO.store (i := 0) rfl rfl rfl rfl rfl rfl (by rfl) (by rfl) (by rfl) (by (dsimp only [List.set, List.append, List.cons_append, List.nil_append, splice, ofConst, AV.cells, List.map, List.map_cons, List.map_nil, List.take, List.drop, Nat.zero_add, Nat.add_zero, Nat.reduceAdd, Nat.reduceMul, Nat.zero_mul, Value.cells, List.toList_toArray, zerosA, List.replicate, List.flatten, List.append_nil]; done)) (by (dsimp only [List.set, List.append, List.cons_append, List.nil_append, splice, ofConst, AV.cells, List.map, List.map_cons, List.map_nil, List.take, List.drop, Nat.zero_add, Nat.add_zero, Nat.reduceAdd, Nat.reduceMul, Nat.zero_mul, Value.cells, List.toList_toArray, zerosA, List.replicate, List.flatten, List.append_nil]; done)) ?_)
    refine AO.nil ?_
    refine AQ.thenN ?_
    refine AW.seq ?_
    refine AW.region ?_
    refine AO.op (O.move rfl rfl) rfl rfl rfl ?_
    refine AO.op (O.call rfl Try.func52 rfl rfl rfl (dbl_fn _)) rfl rfl rfl ?_
    refine AO.op (O.assign rfl rfl) rfl rfl rfl ?_
    refine AO.nil ?_
    refine AQ.thenN ?_
    refine AW.seq ?_
    refine AW.region ?_
    refine AO.op (O.move rfl rfl) rfl rfl rfl ?_
    refine AO.nil ?_
    refine AQ.thenN ?_
    refine AW.block ?_
    have hz : [AV.val (.int .u8 ((sb (wS key (16 * i - 4 + 1)) ^^^ rcF (i - 1)).toNat : Int)), by8 (sb (wS key (16 * i - 4 + 2))), by8 (sb (wS key (16 * i - 4 + 3))), by8 (sb (wS key (16 * i - 4)))] = arB 4 (tz key i 0) := by
      show _ = [by8 (zS key i 0), by8 (zS key i 1), by8 (zS key i 2), by8 (zS key i 3)]
      have z0 : zS key i 0 = sb (wS key (16 * i - 4 + 1)) ^^^ rcF (i - 1) := rfl
      have z1 : zS key i 1 = sb (wS key (16 * i - 4 + 2)) := xor0 _
      have z2 : zS key i 2 = sb (wS key (16 * i - 4 + 3)) := xor0 _
      have z3 : zS key i 3 = sb (wS key (16 * i - 4)) := xor0 _
      rw [z0, z1, z2, z3]
    rw [hz]
    have hrc : dbl (rcF (i - 1)) = rcF (i + 1 - 1) := by
      rw [show i + 1 - 1 = (i - 1) + 1 by omega, rcF]
    rw [hrc]
    refine AW.loopK [(0, _), (4, _), (5, _), (6, _), (8, _)] (fun nn E H => ∃ (k : Nat), (k ≤ 16) ∧ nn = 16 - k ∧ E = [(59, .val (.int .i64 (k : Int)))] ∧ H = [.blk B2 66 4 (arB 4 (tz key i k)), .blk B1 57 176 (arB 176 (cut key (16 * i + k)))]) _ (⟨0, by omega, rfl, rfl, rfl⟩) (by repeat (first | exact envNil | refine envCons rfl ?_)) (by repeat (first | exact envNil | refine envCons rfl ?_)) (by repeat (first | exact subPnil | refine subPcons 0 rfl ?_)) ?_
    rintro nn E H ⟨k, hk, rfl, rfl, rfl⟩
    dsimp only [List.cons_append, List.nil_append]
    refine AW.seq ?_
    refine AW.region ?_
    refine AO.op (O.lss rfl rfl rfl (by rfl)) rfl rfl rfl ?_
    refine AO.nil ?_
    refine AQ.thenN ?_
    refine AW.seq ?_
    refine AW.split rfl (fun h2 => ?_) (fun h2 => ?_) <;> (try simp only [decide_eq_true_eq, decide_eq_false_iff_not, beq_iff_eq, beq_eq_false_iff_ne, bne_iff_ne, bne_eq_false_iff_eq, Bool.not_eq_true', Bool.not_eq_false', Bool.not_eq_true, Bool.not_eq_false, ne_eq, Int.not_lt, Int.not_le, Bool.and_eq_true, Bool.or_eq_true, Bool.or_eq_false_iff, Bool.and_eq_false_imp, strOf_toList, Decidable.not_not] at h2)
    · skip
      have hk' : k < 16 := by omega
      refine AW.skip ?_
      refine AQ.thenN ?_
      refine AW.seq ?_
      refine AW.block ?_
      refine AW.seq ?_
      refine AW.region ?_
      refine AO.op (O.move rfl rfl) rfl rfl rfl ?_
      refine AO.op (O.assign rfl rfl) rfl rfl rfl ?_
      refine AO.nil ?_
      refine AQ.thenN ?_
      refine AW.seq ?_
      refine AW.regionD 12 (by kernel_rfl) (by kernel_rfl) ?_
      simp only [List.take_succ_cons, List.take_zero, List.drop_succ_cons, List.drop_zero]
      refine FA.op (O.move rfl rfl) rfl rfl rfl rfl ?_
      refine FA.op (O.rem rfl rfl rfl (by omega) (tmodE (by omega))) rfl rfl rfl rfl ?_
      refine FA.op (O.idxL rfl rfl rfl (by exact ⟨by omega, by omega⟩)) rfl rfl rfl rfl ?_
      refine FA.op (O.load rfl rfl (by repeat (exact List.Mem.head _)) (by exact tz_get (k := k) (by omega))) rfl rfl rfl rfl ?_
      refine FA.op (O.move rfl rfl) rfl rfl rfl rfl ?_
      refine FA.op (O.sub rfl rfl rfl (by exact wI64 (by omega))) rfl rfl rfl rfl ?_
      refine FA.op (O.move rfl rfl) rfl rfl rfl rfl ?_
      refine FA.op (O.idxL rfl rfl rfl (by exact ⟨by omega, by omega⟩)) rfl rfl rfl rfl ?_
      refine FA.op (O.idxL rfl rfl rfl (by exact ⟨by omega, by omega⟩)) rfl rfl rfl rfl ?_
      refine FA.op (O.load rfl rfl (by repeat (first | exact List.Mem.head _ | refine List.Mem.tail _ ?_)) (by exact cut_get (k := 16 * (i - 1) + k) (by omega) (by omega) (by omega))) rfl rfl rfl rfl ?_
      refine FA.op (O.xor_ rfl rfl rfl xorU8) rfl rfl rfl rfl ?_
      refine FA.op (O.idxL rfl rfl rfl (by exact ⟨by omega, by omega⟩)) rfl rfl rfl rfl ?_
      refine FA.nil ?_
      simp only [chosen, List.nil_append, List.cons_append, List.append_nil]
      (refine AO.store (i := 0) rfl rfl rfl rfl rfl rfl (by rfl) (by rfl) (by exact Nat.ble_eq_true_of_le (by rw [arB_len]; omega)) (by exact arB_set (k := k % 4) (by omega) _ (by omega)) (by (dsimp only [List.set, List.append, List.cons_append, List.nil_append, splice, ofConst, AV.cells, List.map, List.map_cons, List.map_nil, List.take, List.drop, Nat.zero_add, Nat.add_zero, Nat.reduceAdd, Nat.reduceMul, Nat.zero_mul, Value.cells, List.toList_toArray, zerosA, List.replicate, List.flatten, List.append_nil]; done)) ?_)
      refine AO.nil ?_
      refine AQ.thenN ?_
      refine AW.regionD 8 (by kernel_rfl) (by kernel_rfl) ?_
      simp only [List.take_succ_cons, List.take_zero, List.drop_succ_cons, List.drop_zero]
      refine FA.op (O.move rfl rfl) rfl rfl rfl rfl ?_
      refine FA.op (O.move rfl rfl) rfl rfl rfl rfl ?_
      refine FA.op (O.move rfl rfl) rfl rfl rfl rfl ?_
      refine FA.op (O.rem rfl rfl rfl (by omega) (tmodE (by omega))) rfl rfl rfl rfl ?_
      refine FA.op (O.idxL rfl rfl rfl (by exact ⟨by omega, by omega⟩)) rfl rfl rfl rfl ?_
      refine FA.op (O.load rfl rfl (by repeat (exact List.Mem.head _)) (by exact arB_get (k := k % 4) (by omega) (by omega))) rfl rfl rfl rfl ?_
      refine FA.op (O.idxL rfl rfl rfl (by exact ⟨by omega, by omega⟩)) rfl rfl rfl rfl ?_
      refine FA.op (O.idxL rfl rfl rfl (by exact ⟨by omega, by omega⟩)) rfl rfl rfl rfl ?_
      refine FA.nil ?_
      simp only [chosen, List.nil_append, List.cons_append, List.append_nil]
      (refine AO.store (i := 1) rfl rfl rfl rfl rfl rfl (by rfl) (by rfl) (by exact Nat.ble_eq_true_of_le (by rw [arB_len]; omega)) (by exact arB_set (k := 16 * i + k) (by omega) _ (by omega)) (by (dsimp only [List.set, List.append, List.cons_append, List.nil_append, splice, ofConst, AV.cells, List.map, List.map_cons, List.map_nil, List.take, List.drop, Nat.zero_add, Nat.add_zero, Nat.reduceAdd, Nat.reduceMul, Nat.zero_mul, Value.cells, List.toList_toArray, zerosA, List.replicate, List.flatten, List.append_nil]; done)) ?_)
      refine AO.nil ?_
      refine AQ.blockN ?_
      refine AQ.thenN ?_
      refine AW.region ?_
      refine AO.op (O.add rfl rfl rfl (by exact wI64 (by omega))) rfl rfl rfl ?_
      refine AO.op (O.move rfl rfl) rfl rfl rfl ?_
      refine AO.nil ?_
      have hw := wS_eq key hi.1 hk'
      have e1 : arB 4 (fun q => if q = k % 4 then zS key i k ^^^ wS key (16 * (i - 1) + k) else tz key i k q) = arB 4 (tz key i (k + 1)) := arB_congr fun q hq => by
        rw [← hw]; exact tz_step q hq
      have e2 : arB 176 (fun q => if q = 16 * i + k then (if True then zS key i k ^^^ wS key (16 * (i - 1) + k) else tz key i k (k % 4)) else cut key (16 * i + k) q) = arB 176 (cut key (16 * i + (k + 1))) := arB_congr fun q hq => by
        rw [if_pos trivial, ← hw]
        unfold cut
        rcases Nat.lt_trichotomy q (16 * i + k) with h1 | h1 | h1
        · rw [if_neg (by omega), if_pos h1, if_pos (by omega)]
        · rw [if_pos h1, if_pos (by omega), h1]
        · rw [if_neg (by omega), if_neg (by omega), if_neg (by omega)]
      rw [e1, e2]
      refine AQ.loopKN _ _ _ (by omega) (⟨k + 1, by omega, rfl, rfl, rfl⟩) (by repeat (first | exact envNil | refine envCons rfl ?_)) (by repeat (first | exact envNil | refine envCons rfl ?_)) (by repeat (first | exact subPnil | refine subPcons 0 rfl ?_))
    · skip
      obtain rfl : k = 16 := by omega
      refine AW.exit ?_
      refine AQ.thenX ?_
      refine AQ.loopX ?_
      refine AQ.blockX rfl ?_
      refine AQ.blockN ?_
      refine AQ.thenN ?_
      refine AW.region ?_
      refine AO.op (O.move rfl rfl) rfl rfl rfl ?_
      refine AO.op (O.add rfl rfl rfl (by exact wI64 (by omega))) rfl rfl rfl ?_
      refine AO.op (O.assign rfl rfl) rfl rfl rfl ?_
      refine AO.nil ?_
      refine AQ.loopKN _ _ _ (by omega) (⟨i + 1, by omega, rfl, rfl, rfl⟩) (by repeat (first | exact envNil | refine envCons rfl ?_)) (by repeat (first | exact envNil | refine envCons rfl ?_)) (by repeat (first | exact subPnil | refine subPcons 1 rfl ?_))
  · skip
    obtain rfl : i = 11 := by omega
    have e : arB 176 (cut key (16 * 11)) = arB 176 (wS key) := arB_congr fun q hq => if_pos hq
    rw [e]
    refine AW.exit ?_
    refine AQ.thenX ?_
    refine AQ.loopX ?_
    refine AQ.blockX rfl ?_
    refine AQ.thenN ?_
    refine AW.seq ?_
    refine AW.region ?_
    refine AO.op (O.loadK rfl rfl (by repeat (exact List.Mem.head _)) (by exact List.take_of_length_le (Nat.le_of_eq (arB_len _ _))) (by exact arB_len _ _)) rfl rfl rfl ?_
    (refine AO.store (i := 0) rfl rfl rfl rfl rfl rfl (by exact arB_one _ _) (by exact arB_len _ _) (by exact Nat.ble_eq_true_of_le (Nat.le_of_eq (arB_len _ _).symm)) (by exact splice_arB (arB_len _ _)) (by (dsimp only [List.set, List.append, List.cons_append, List.nil_append, splice, ofConst, AV.cells, List.map, List.map_cons, List.map_nil, List.take, List.drop, Nat.zero_add, Nat.add_zero, Nat.reduceAdd, Nat.reduceMul, Nat.zero_mul, Value.cells, List.toList_toArray, zerosA, List.replicate, List.flatten, List.append_nil]; done)) ?_)
    refine AO.nil ?_
    refine AQ.thenN ?_
    refine AW.ret ?_
    refine AQ.retCell (ys := arB 176 (wS key)) rfl rfl (by repeat (exact List.Mem.head _)) (List.take_of_length_le (Nat.le_of_eq (arB_len _ _))) (arB_len _ _) ⟨_, List.nil_sublist _, .nil⟩ ⟨rfl, rfl⟩
end Go.Proofs.Ytochjihddnkhcaa.By

namespace Go.Proofs.Ytochjihddnkhcaa.By
open Go.RowKit L A
set_option linter.unusedVariables false
set_option linter.unusedSimpArgs false
attribute [local irreducible] AW AQ AO
def tq (key : Nat → UInt8) (i j : Nat) : UInt8 := if i % 4 = 0 then sb (wS key (4 * i - 4 + (j + 1) % 4)) ^^^ (if j = 0 then rcF (i / 4 - 1) else 0) else wS key (4 * i - 4 + j)
theorem wS_ref (key : Nat → UInt8) {i j : Nat} (hi : 4 ≤ i) (hj : j < 4) : wS key (4 * i - 16 + j) ^^^ tq key i j = wS key (4 * i + j) := by
  rw [UInt8.xor_comm, wS_ge (q := 4 * i + j) (by omega), tq]
  by_cases h : i % 4 = 0
  · have h1 : (4 * i + j) % 16 = j := by omega
    rw [if_pos h, h1, if_pos hj, show 4 * i + j - j - 4 = 4 * i - 4 by omega, show (4 * i + j) / 16 = i / 4 by omega, show 4 * i + j - 16 = 4 * i - 16 + j by omega]
  · rw [if_neg h, if_neg (by omega), show 4 * i + j - 4 = 4 * i - 4 + j by omega, show 4 * i + j - 16 = 4 * i - 16 + j by omega]
theorem box_ref : BoxOf (arB 256 RB) 0 sb := fun v => by
  have := v.toNat_lt
  rw [arB_get (k := v.toNat) (by omega) (by omega), RB, UInt8.ofNat_toNat]
theorem prod2 (a : UInt8) : prod a 2 = dbl a := all256 (p := fun a => prod a 2 = dbl a) (by decide +kernel) a
theorem arB_snoc {n : Nat} {f : Nat → UInt8} {v : UInt8} (h : v = f n) : arB n f ++ [by8 v] = arB (n + 1) f := by
  subst h; rw [arB_eq, arB_eq, List.range_succ, List.map_append]; rfl
set_option maxRecDepth 20000 in
set_option maxHeartbeats 4000000 in
theorem rsched_fn (key : Nat → UInt8) : Sp Try.prog 38 [.ro false 16 (arB 16 key), .agg (arB 256 RB)] [] (Is (.ro false 176 (arB 176 (wS key)))) := by
  refine Sp.enter Try.func38 rfl _ Try.ntmps38 rfl (fun w0 R0 => ?_)
  refine AW.seq ?_
  refine AW.region ?_
  refine AO.opB (O.box rfl rfl rfl rfl rfl) rfl rfl rfl ?_
  intro B1
  refine AO.op (O.assign rfl rfl) rfl rfl rfl ?_
  refine AO.nil ?_
  refine AQ.thenN ?_
  refine AW.seq ?_
  refine AW.region ?_
  refine AO.op (O.move rfl rfl) rfl rfl rfl ?_
  refine AO.opRow (O.appendNil rfl (by rfl) (by rfl) rfl rfl (by exact SrcA.ro TyD.ax (by rfl) (Nat.le_of_ble_eq_true rfl)) (by rfl) (by (unfold maxLen; omega)) (by omega)) rfl rfl rfl ?_
  intro V2 hV2
  refine AO.op (O.assign rfl rfl) rfl rfl rfl ?_
  refine AO.nil ?_
  refine AQ.thenN ?_
  refine AW.seq ?_
  refine AW.region ?_
  refine AO.op (O.assign rfl rfl) rfl rfl rfl ?_
  refine AO.nil ?_
  refine AQ.thenN ?_
  refine AW.seq ?_
  refine AW.seq ?_
  refine AW.region ?_
  refine AO.op (O.assign rfl rfl) rfl rfl rfl ?_
  refine AO.nil ?_
  refine AQ.thenN ?_
  refine AW.block ?_
  have e0 : arB 16 key = arB (4 * 4) (wS key) := arB_congr fun q hq => (wS_key hq).symm
  rw [e0]
  refine AW.loopK [(3, _)] (fun nn E H => ∃ (i : Nat) (V : Value), (4 ≤ i ∧ i ≤ 44) ∧ (V.oneCell' = true) ∧ nn = 44 - i ∧ E = [(5, .val V), (6, by8 (rcF ((i - 1) / 4))), (7, .val (.int .i64 (i : Int)))] ∧ H = [.row V 5 1 (4 * i) (arB (4 * i) (wS key)), .blk B1 51 (arB 256 RB).length (arB 256 RB)]) _ (⟨4, V2, by omega, hV2, rfl, rfl, rfl⟩) (by repeat (first | exact envNil | refine envCons rfl ?_)) (by repeat (first | exact envNil | refine envCons rfl ?_)) (by repeat (first | exact subPnil | refine subPcons 0 rfl ?_)) ?_
  rintro nn E H ⟨i, V, hi, hV, rfl, rfl, rfl⟩
  dsimp only [List.cons_append, List.nil_append]
  refine AW.seq ?_
  refine AW.seq ?_
  refine AW.region ?_
  refine AO.op (O.move rfl rfl) rfl rfl rfl ?_
  refine AO.op (O.lss rfl rfl rfl (by rfl)) rfl rfl rfl ?_
  refine AO.nil ?_
  refine AQ.thenN ?_
  refine AW.split rfl (fun h => ?_) (fun h => ?_) <;> (try simp only [decide_eq_true_eq, decide_eq_false_iff_not, beq_iff_eq, beq_eq_false_iff_ne, bne_iff_ne, bne_eq_false_iff_eq, Bool.not_eq_true', Bool.not_eq_false', Bool.not_eq_true, Bool.not_eq_false, ne_eq, Int.not_lt, Int.not_le, Bool.and_eq_true, Bool.or_eq_true, Bool.or_eq_false_iff, Bool.and_eq_false_imp, strOf_toList, Decidable.not_not] at h)
  · skip
    have hi' : i < 44 := by omega
    have hld : ∀ d : Nat, 1 ≤ d → d ≤ 4 → (arB (4 * i) (wS key))[0 + (4 * (i : Int) - (d : Int)).toNat * 1]? = some (by8 (wS key (4 * i - d))) := fun d h1 h2 => arB_get (by omega) (by omega)
    have hl4 := hld 4 (by omega) (by omega)
    have hl3 := hld 3 (by omega) (by omega)
    have hl2 := hld 2 (by omega) (by omega)
    have hl1 := hld 1 (by omega) (by omega)
    refine AW.g ?_
    refine G.openRow 0 rfl (by omega) (fun b' cap hc1 hc2 hxs hVe => ?_)
    refine AW.u ?_
    subst hVe
    dsimp only [List.set]
    refine AW.skip ?_
    refine AQ.thenN ?_
    refine AW.seq ?_
    refine AW.block ?_
    refine AW.seq ?_
    refine AW.regionD 26 (by kernel_rfl) (by kernel_rfl) ?_
    simp only [List.take_succ_cons, List.take_zero, List.drop_succ_cons, List.drop_zero]
    refine FA.op (O.move rfl rfl) rfl rfl rfl rfl ?_
    refine FA.op (O.move rfl rfl) rfl rfl rfl rfl ?_
    refine FA.op (O.mul rfl rfl rfl (by exact wI64 (by omega))) rfl rfl rfl rfl ?_
    refine FA.op (O.sub rfl rfl rfl (by exact wI64 (by omega))) rfl rfl rfl rfl ?_
    refine FA.op (O.idxV rfl rfl rfl (by exact ⟨by omega, by omega⟩)) rfl rfl rfl rfl ?_
    refine FA.op (O.load rfl rfl (by repeat (exact List.Mem.head _)) (by exact hl4)) rfl rfl rfl rfl ?_
    refine FA.op (O.move rfl rfl) rfl rfl rfl rfl ?_
    refine FA.op (O.move rfl rfl) rfl rfl rfl rfl ?_
    refine FA.op (O.mul rfl rfl rfl (by exact wI64 (by omega))) rfl rfl rfl rfl ?_
    refine FA.op (O.sub rfl rfl rfl (by exact wI64 (by omega))) rfl rfl rfl rfl ?_
    refine FA.op (O.idxV rfl rfl rfl (by exact ⟨by omega, by omega⟩)) rfl rfl rfl rfl ?_
    refine FA.op (O.load rfl rfl (by repeat (exact List.Mem.head _)) (by exact hl3)) rfl rfl rfl rfl ?_
    refine FA.op (O.move rfl rfl) rfl rfl rfl rfl ?_
    refine FA.op (O.move rfl rfl) rfl rfl rfl rfl ?_
    refine FA.op (O.mul rfl rfl rfl (by exact wI64 (by omega))) rfl rfl rfl rfl ?_
    refine FA.op (O.sub rfl rfl rfl (by exact wI64 (by omega))) rfl rfl rfl rfl ?_
    refine FA.op (O.idxV rfl rfl rfl (by exact ⟨by omega, by omega⟩)) rfl rfl rfl rfl ?_
    refine FA.op (O.load rfl rfl (by repeat (exact List.Mem.head _)) (by exact hl2)) rfl rfl rfl rfl ?_
    refine FA.op (O.move rfl rfl) rfl rfl rfl rfl ?_
    refine FA.op (O.move rfl rfl) rfl rfl rfl rfl ?_
    refine FA.op (O.mul rfl rfl rfl (by exact wI64 (by omega))) rfl rfl rfl rfl ?_
    refine FA.op (O.sub rfl rfl rfl (by exact wI64 (by omega))) rfl rfl rfl rfl ?_
    refine FA.op (O.idxV rfl rfl rfl (by exact ⟨by omega, by omega⟩)) rfl rfl rfl rfl ?_
    refine FA.op (O.load rfl rfl (by repeat (exact List.Mem.head _)) (by exact hl1)) rfl rfl rfl rfl ?_
    refine FA.op (O.build rfl rfl rfl (by rfl)) rfl rfl rfl rfl ?_
    refine FA.opN (O.alloc rfl (by (dsimp only [List.set, List.append, List.cons_append, List.nil_append, splice, ofConst, AV.cells, List.map, List.map_cons, List.map_nil, List.take, List.drop, Nat.zero_add, Nat.add_zero, Nat.reduceAdd, Nat.reduceMul, Nat.zero_mul, Value.cells, List.toList_toArray, zerosA, List.replicate, List.flatten, List.append_nil]; done)) (by rfl)) rfl rfl rfl rfl ?_
    refine FA.nil ?_
    simp only [chosen, List.nil_append, List.cons_append, List.append_nil]
    rintro _ _ ⟨B3, rfl, rfl⟩
    simp only [List.cons_append, List.nil_append]
    (refine AO.store (i := 0) rfl rfl rfl rfl rfl rfl (by rfl) (by rfl) (by rfl) (by (dsimp only [List.set, List.append, List.cons_append, List.nil_append, splice, ofConst, AV.cells, List.map, List.map_cons, List.map_nil, List.take, List.drop, Nat.zero_add, Nat.add_zero, Nat.reduceAdd, Nat.reduceMul, Nat.zero_mul, Value.cells, List.toList_toArray, zerosA, List.replicate, List.flatten, List.append_nil]; done)) (by (dsimp only [List.set, List.append, List.cons_append, List.nil_append, splice, ofConst, AV.cells, List.map, List.map_cons, List.map_nil, List.take, List.drop, Nat.zero_add, Nat.add_zero, Nat.reduceAdd, Nat.reduceMul, Nat.zero_mul, Value.cells, List.toList_toArray, zerosA, List.replicate, List.flatten, List.append_nil]; done)) ?_)
    refine AO.nil ?_
    refine AQ.thenN ?_
    refine AW.seq ?_
    refine AW.seq ?_
    refine AW.region ?_
    refine AO.op (O.move rfl rfl) rfl rfl rfl ?_
    refine AO.op (O.rem rfl rfl rfl (by omega) (tmodE (by omega))) rfl rfl rfl ?_
    refine AO.op (O.eql rfl rfl rfl (by rfl)) rfl rfl rfl ?_
    refine AO.nil ?_
    refine AQ.thenN ?_
    refine AW.joinK (True) [(3, _), (5, _), (7, _), (8, _)] [(6, by8 (rcF (i / 4)))] [.blk B3 66 4 (arB 4 (tq key i)), .blk b' 5 (cap * 1) (arB (4 * i) (wS key)), .blk B1 51 (arB 256 RB).length (arB 256 RB)] rfl (by repeat (first | exact envNil | refine envCons rfl ?_)) (fun h43 => ?_) (fun h43 => ?_) (fun hj => ?_) <;> try (try simp only [decide_eq_true_eq, decide_eq_false_iff_not, beq_iff_eq, beq_eq_false_iff_ne, bne_iff_ne, bne_eq_false_iff_eq, Bool.not_eq_true', Bool.not_eq_false', Bool.not_eq_true, Bool.not_eq_false, ne_eq, Int.not_lt, Int.not_le, Bool.and_eq_true, Bool.or_eq_true, Bool.or_eq_false_iff, Bool.and_eq_false_imp, strOf_toList, Decidable.not_not] at h43)
    · skip
      have h4 : i % 4 = 0 := by omega
      refine AW.seq ?_
      refine AW.regionD 19 (by kernel_rfl) (by kernel_rfl) ?_
      simp only [List.take_succ_cons, List.take_zero, List.drop_succ_cons, List.drop_zero]
      refine FA.op (O.idxL rfl rfl rfl (by exact ⟨by omega, by omega⟩)) rfl rfl rfl rfl ?_
      refine FA.op (O.load rfl rfl (by repeat (exact List.Mem.head _)) (by rfl)) rfl rfl rfl rfl ?_
      refine FA.op (O.idxL rfl rfl rfl (by exact u8ix _)) rfl rfl rfl rfl ?_
      refine FA.op (O.load rfl rfl (by repeat (first | exact List.Mem.head _ | refine List.Mem.tail _ ?_)) (by exact box_at1 box_ref _)) rfl rfl rfl rfl ?_
      refine FA.op (O.move rfl rfl) rfl rfl rfl rfl ?_
      refine FA.op (O.xor_ rfl rfl rfl xorU8) rfl rfl rfl rfl ?_
      refine FA.op (O.idxL rfl rfl rfl (by exact ⟨by omega, by omega⟩)) rfl rfl rfl rfl ?_
      refine FA.op (O.load rfl rfl (by repeat (exact List.Mem.head _)) (by rfl)) rfl rfl rfl rfl ?_
      refine FA.op (O.idxL rfl rfl rfl (by exact u8ix _)) rfl rfl rfl rfl ?_
      refine FA.op (O.load rfl rfl (by repeat (first | exact List.Mem.head _ | refine List.Mem.tail _ ?_)) (by exact box_at1 box_ref _)) rfl rfl rfl rfl ?_
      refine FA.op (O.idxL rfl rfl rfl (by exact ⟨by omega, by omega⟩)) rfl rfl rfl rfl ?_
      refine FA.op (O.load rfl rfl (by repeat (exact List.Mem.head _)) (by rfl)) rfl rfl rfl rfl ?_
      refine FA.op (O.idxL rfl rfl rfl (by exact u8ix _)) rfl rfl rfl rfl ?_
      refine FA.op (O.load rfl rfl (by repeat (first | exact List.Mem.head _ | refine List.Mem.tail _ ?_)) (by exact box_at1 box_ref _)) rfl rfl rfl rfl ?_
      refine FA.op (O.idxL rfl rfl rfl (by exact ⟨by omega, by omega⟩)) rfl rfl rfl rfl ?_
      refine FA.op (O.load rfl rfl (by repeat (exact List.Mem.head _)) (by rfl)) rfl rfl rfl rfl ?_
      refine FA.op (O.idxL rfl rfl rfl (by exact u8ix _)) rfl rfl rfl rfl ?_
      refine FA.op (O.load rfl rfl (by repeat (first | exact List.Mem.head _ | refine List.Mem.tail _ ?_)) (by exact box_at1 box_ref _)) rfl rfl rfl rfl ?_
      refine FA.op (O.build rfl rfl rfl (by rfl)) rfl rfl rfl rfl ?_
      refine FA.nil ?_
      simp only [chosen, List.nil_append, List.cons_append, List.append_nil]
      (refine AO.store (i := 0) rfl rfl rfl rfl rfl rfl (by rfl) (by rfl) (by rfl) (by (dsimp only [List.set, List.append, List.cons_append, List.nil_append, splice, ofConst, AV.cells, List.map, List.map_cons, List.map_nil, List.take, List.drop, Nat.zero_add, Nat.add_zero, Nat.reduceAdd, Nat.reduceMul, Nat.zero_mul, Value.cells, List.toList_toArray, zerosA, List.replicate, List.flatten, List.append_nil]; done)) (by (dsimp only [List.set, List.append, List.cons_append, List.nil_append, splice, ofConst, AV.cells, List.map, List.map_cons, List.map_nil, List.take, List.drop, Nat.zero_add, Nat.add_zero, Nat.reduceAdd, Nat.reduceMul, Nat.zero_mul, Value.cells, List.toList_toArray, zerosA, List.replicate, List.flatten, List.append_nil]; done)) ?_)
      refine AO.nil ?_
      refine AQ.thenN ?_
      refine AW.region ?_
      refine AO.op (O.move rfl rfl) rfl rfl rfl ?_
      refine AO.op (O.call rfl Try.func54 rfl rfl rfl (mul_fn _ 2)) rfl rfl rfl ?_
      refine AO.op (O.assign rfl rfl) rfl rfl rfl ?_
      refine AO.nil ?_
      have ht : [AV.val (.int .u8 ((sb (wS key (4 * i - 3)) ^^^ rcF ((i - 1) / 4)).toNat : Int)), by8 (sb (wS key (4 * i - 2))), by8 (sb (wS key (4 * i - 1))), by8 (sb (wS key (4 * i - 4)))] = arB 4 (tq key i) := by
        show _ = [by8 (tq key i 0), by8 (tq key i 1), by8 (tq key i 2), by8 (tq key i 3)]
        have t0 : tq key i 0 = sb (wS key (4 * i - 3)) ^^^ rcF ((i - 1) / 4) := by
          rw [tq, if_pos h4, if_pos rfl, show 4 * i - 4 + (0 + 1) % 4 = 4 * i - 3 by omega, show i / 4 - 1 = (i - 1) / 4 by omega]
        have t1 : tq key i 1 = sb (wS key (4 * i - 2)) := by
          rw [tq, if_pos h4, if_neg (by omega), xor0, show 4 * i - 4 + (1 + 1) % 4 = 4 * i - 2 by omega]
        have t2 : tq key i 2 = sb (wS key (4 * i - 1)) := by
          rw [tq, if_pos h4, if_neg (by omega), xor0, show 4 * i - 4 + (2 + 1) % 4 = 4 * i - 1 by omega]
        have t3 : tq key i 3 = sb (wS key (4 * i - 4)) := by
          rw [tq, if_pos h4, if_neg (by omega), xor0, show 4 * i - 4 + (3 + 1) % 4 = 4 * i - 4 by omega]
        rw [t0, t1, t2, t3]
      rw [ht]
      have hr : prod (rcF ((i - 1) / 4)) 2 = rcF (i / 4) := by
        rw [prod2, show i / 4 = (i - 1) / 4 + 1 by omega, rcF]
      rw [hr]
      refine AQ.midK0 (trivial) (by repeat (first | exact envNil | refine envCons rfl ?_)) (by repeat (first | exact subPnil | refine subPcons 0 rfl ?_))
    · skip
      have h4 : ¬ i % 4 = 0 := by omega
      refine AW.skip ?_
      have ht : [by8 (wS key (4 * i - 4)), by8 (wS key (4 * i - 3)), by8 (wS key (4 * i - 2)), by8 (wS key (4 * i - 1))] = arB 4 (tq key i) := by
        show _ = [by8 (tq key i 0), by8 (tq key i 1), by8 (tq key i 2), by8 (tq key i 3)]
        unfold tq
        rw [if_neg h4, if_neg h4, if_neg h4, if_neg h4, show 4 * i - 4 + 0 = 4 * i - 4 by omega, show 4 * i - 4 + 1 = 4 * i - 3 by omega, show 4 * i - 4 + 2 = 4 * i - 2 by omega, show 4 * i - 4 + 3 = 4 * i - 1 by omega]
      rw [ht]
      have hr : rcF ((i - 1) / 4) = rcF (i / 4) := by rw [show (i - 1) / 4 = i / 4 by omega]
      rw [hr]
      refine AQ.midK (trivial) (by repeat (first | exact envNil | refine envCons rfl ?_)) (by repeat (first | exact envNil | refine envCons rfl ?_)) (by repeat (first | exact subPnil | refine subPcons 0 rfl ?_))
    · dsimp only [List.cons_append, List.nil_append]
      refine AQ.thenN ?_
      refine AW.seq ?_
      refine AW.region ?_
      refine AO.op (O.move rfl rfl) rfl rfl rfl ?_
      refine AO.nil ?_
      refine AQ.thenN ?_
      refine AW.block ?_
      refine AW.g ?_
      refine G.closeRow (b := b') 1 rfl hxs rfl hc1 hc2 ?_
      refine AW.u ?_
      dsimp only [List.set]
      refine AW.loopK [(3, _), (6, _), (7, _), (8, _)] (fun nn E H => ∃ (j : Nat) (W : Value), (j ≤ 4) ∧ (W.oneCell' = true) ∧ nn = 4 - j ∧ E = [(5, .val W), (65, .val (.int .i64 (j : Int)))] ∧ H = [.row W 5 1 (4 * i + j) (arB (4 * i + j) (wS key)), .blk B3 66 4 (arB 4 (tq key i)), .blk B1 51 (arB 256 RB).length (arB 256 RB)]) _ (⟨0, _, by omega, hV, rfl, rfl, rfl⟩) (by repeat (first | exact envNil | refine envCons rfl ?_)) (by repeat (first | exact envNil | refine envCons rfl ?_)) (by repeat (first | exact subPnil | refine subPcons 0 rfl ?_ | refine subPcons 1 rfl ?_)) ?_
      rintro nn E H ⟨j, W, hj, hW, rfl, rfl, rfl⟩
      dsimp only [List.cons_append, List.nil_append]
      refine AW.seq ?_
      refine AW.region ?_
      refine AO.op (O.lss rfl rfl rfl (by rfl)) rfl rfl rfl ?_
      refine AO.nil ?_
      refine AQ.thenN ?_
      refine AW.seq ?_
      refine AW.split rfl (fun h2 => ?_) (fun h2 => ?_) <;> (try simp only [decide_eq_true_eq, decide_eq_false_iff_not, beq_iff_eq, beq_eq_false_iff_ne, bne_iff_ne, bne_eq_false_iff_eq, Bool.not_eq_true', Bool.not_eq_false', Bool.not_eq_true, Bool.not_eq_false, ne_eq, Int.not_lt, Int.not_le, Bool.and_eq_true, Bool.or_eq_true, Bool.or_eq_false_iff, Bool.and_eq_false_imp, strOf_toList, Decidable.not_not] at h2)
      · skip
        have hj' : j < 4 := by omega
        refine AW.g ?_
        refine G.openRow 0 rfl (by omega) (fun b2 cap2 hd1 hd2 hxs2 hVe2 => ?_)
        refine AW.u ?_
        subst hVe2
        dsimp only [List.set]
        refine AW.skip ?_
        refine AQ.thenN ?_
        refine AW.seq ?_
        refine AW.block ?_
        refine AW.seq ?_
        refine AW.region ?_
        refine AO.op (O.move rfl rfl) rfl rfl rfl ?_
        refine AO.op (O.assign rfl rfl) rfl rfl rfl ?_
        refine AO.nil ?_
        refine AQ.thenN ?_
        refine AW.regionD 14 (by kernel_rfl) (by kernel_rfl) ?_
        simp only [List.take_succ_cons, List.take_zero, List.drop_succ_cons, List.drop_zero]
        refine FA.op (O.move rfl rfl) rfl rfl rfl rfl ?_
        refine FA.op (O.move rfl rfl) rfl rfl rfl rfl ?_
        refine FA.op (O.move rfl rfl) rfl rfl rfl rfl ?_
        refine FA.op (O.mul rfl rfl rfl (by exact wI64 (by omega))) rfl rfl rfl rfl ?_
        refine FA.op (O.sub rfl rfl rfl (by exact wI64 (by omega))) rfl rfl rfl rfl ?_
        refine FA.op (O.move rfl rfl) rfl rfl rfl rfl ?_
        refine FA.op (O.add rfl rfl rfl (by exact wI64 (by omega))) rfl rfl rfl rfl ?_
        refine FA.op (O.idxV rfl rfl rfl (by exact ⟨by omega, by omega⟩)) rfl rfl rfl rfl ?_
        refine FA.op (O.load rfl rfl (by repeat (exact List.Mem.head _)) (by exact arB_get (k := 4 * i - 16 + j) (by omega) (by omega))) rfl rfl rfl rfl ?_
        refine FA.op (O.move rfl rfl) rfl rfl rfl rfl ?_
        refine FA.op (O.idxL rfl rfl rfl (by exact ⟨by omega, by omega⟩)) rfl rfl rfl rfl ?_
        refine FA.op (O.load rfl rfl (by repeat (first | exact List.Mem.head _ | refine List.Mem.tail _ ?_)) (by exact arB_get (k := j) (by omega) (by omega))) rfl rfl rfl rfl ?_
        refine FA.op (O.xor_ rfl rfl rfl xorU8) rfl rfl rfl rfl ?_
        refine FA.op (OpW.frz (O.buildSlice rfl rfl rfl (by rfl) (by rfl) (by rfl) (by rfl)) (by (unfold maxLen; omega))) rfl rfl rfl rfl ?_
        refine FA.nil ?_
        simp only [chosen, List.nil_append, List.cons_append, List.append_nil]
        refine AO.g ?_
        refine G.closeRow (b := b2) 0 rfl hxs2 rfl hd1 hd2 ?_
        refine AO.u ?_
        dsimp only [List.set]
        (refine AO.append' (i := 0) rfl rfl rfl rfl (by rfl) (by rfl) rfl rfl rfl (by exact SrcA.ro TyD.ax (by rfl) (Nat.le_of_ble_eq_true rfl)) (by rfl) (by (unfold maxLen; omega)) (by omega) (by (dsimp only [List.set, List.append, List.cons_append, List.nil_append, splice, ofConst, AV.cells, List.map, List.map_cons, List.map_nil, List.take, List.drop, Nat.zero_add, Nat.add_zero, Nat.reduceAdd, Nat.reduceMul, Nat.zero_mul, Value.cells, List.toList_toArray, zerosA, List.replicate, List.flatten, List.append_nil]; done)) (fun _ => by (dsimp only [List.set]; done)) ?_)
        intro V4 hV4
        refine AO.op (O.assign rfl rfl) rfl rfl rfl ?_
        refine AO.nil ?_
        refine AQ.blockN ?_
        refine AQ.thenN ?_
        refine AW.region ?_
        refine AO.op (O.add rfl rfl rfl (by exact wI64 (by omega))) rfl rfl rfl ?_
        refine AO.op (O.move rfl rfl) rfl rfl rfl ?_
        refine AO.nil ?_
        rw [show arB (4 * i + j) (wS key) ++ [AV.val (.int .u8 ((wS key (4 * i - 16 + j) ^^^ tq key i j).toNat : Int))] = arB (4 * i + j + 1) (wS key) from arB_snoc (wS_ref key hi.1 hj')]
        refine AQ.loopKN _ _ _ (by omega) (⟨j + 1, V4, by omega, hV4, rfl, rfl, rfl⟩) (by repeat (first | exact envNil | refine envCons rfl ?_)) (by repeat (first | exact envNil | refine envCons rfl ?_)) (by repeat (first | exact subPnil | refine subPcons 0 rfl ?_))
      · skip
        obtain rfl : j = 4 := by omega
        refine AW.exit ?_
        refine AQ.thenX ?_
        refine AQ.loopX ?_
        refine AQ.blockX rfl ?_
        refine AQ.blockN ?_
        refine AQ.thenN ?_
        refine AW.region ?_
        refine AO.op (O.move rfl rfl) rfl rfl rfl ?_
        refine AO.op (O.add rfl rfl rfl (by exact wI64 (by omega))) rfl rfl rfl ?_
        refine AO.op (O.assign rfl rfl) rfl rfl rfl ?_
        refine AO.nil ?_
        refine AQ.loopKN _ _ _ (by omega) (⟨i + 1, W, by omega, hW, rfl, rfl, rfl⟩) (by repeat (first | exact envNil | refine envCons rfl ?_)) (by repeat (first | exact envNil | refine envCons rfl ?_)) (by repeat (first | exact subPnil | refine subPcons 0 rfl ?_ | refine subPcons 1 rfl ?_))
  · skip
    obtain rfl : i = 44 := by omega
    refine AW.exit ?_
    refine AQ.thenX ?_
    refine AQ.loopX ?_
    refine AQ.blockX rfl ?_
    refine AQ.thenN ?_
    refine AW.seq ?_
    refine AW.region ?_
    refine AO.op (O.move rfl rfl) rfl rfl rfl ?_
    refine AO.op (O.assign rfl rfl) rfl rfl rfl ?_
    refine AO.nil ?_
    refine AQ.thenN ?_
    refine AW.ret ?_
    refine AQ.g ?_
    refine G.freezeRow 0 rfl [4] (by repeat (first | exact frNil | refine frCons rfl ?_)) ?_
    refine AQ.u ?_
    try dsimp only [List.map, List.eraseIdx, List.cons_append, List.nil_append]
    refine AQ.ret1 rfl rfl ⟨_, List.nil_sublist _, .nil⟩ (⟨rfl, rfl⟩)
end Go.Proofs.Ytochjihddnkhcaa.By

namespace Go.Proofs.Ytochjihddnkhcaa.A
open Go.RowKit L
set_option linter.unusedVariables false
set_option linter.unusedSimpArgs false
section
variable {Γ : Cx} {P : Program} {Q : Exit → Act → World → Prop} {E : Env} {H : List HE} {N : Nat} {o : Oper} {ops : Array Oper} {rest : List Oper}
/-- x[l:h] of a slice that is read only, its length told. -/
theorem O.sliceLHm {m : Nat} {T : Nat} {x y y' : Operand} {full : Bool} {n : Nat} {l h : Nat} {kk kk' : IntKind} {z z' : Int} {xs ys : List AV} {U sz bs : Nat} {zz : Value} [hs : TyS P T U sz bs zz] (ho : o.op = .slice T x (some y) (some y') none) (hx : ev E x = some (.ro full n xs)) (hy : ev E y = some (.val (.int kk z))) (hy' : ev E y' = some (.val (.int kk' z')))
    (hz : z = (l : Int)) (hz' : z' = (h : Int)) (hlh : l ≤ h) (hhn : h ≤ n) (hm : h - l = m) (hys : (xs.drop (l * sz)).take (m * sz) = ys) : OpW P N o E H (Is (.ro false m ys)) := by
  subst hm
  exact O.sliceLH ho hx hy hy' hz hz' hlh hhn hys
end
theorem arB_app {n m : Nat} {f g : Nat → UInt8} : arB n f ++ arB m g = arB (n + m) (fun q => if q < n then f q else g (q - n)) := by
  apply List.ext_getElem?
  intro q
  rw [List.getElem?_append, arB_len]
  by_cases h : q < n
  · rw [if_pos h, arB_get h rfl, arB_get (k := q) (by omega) rfl, if_pos h]
  · rw [if_neg h]
    by_cases h2 : q < n + m
    · rw [arB_get (k := q - n) (by omega) rfl, arB_get (k := q) h2 rfl, if_neg h]
    · rw [List.getElem?_eq_none (by rw [arB_len]; omega), List.getElem?_eq_none (by rw [arB_len]; omega)]
end Go.Proofs.Ytochjihddnkhcaa.A

namespace Go.Proofs.Ytochjihddnkhcaa.By
open Go.RowKit L A
set_option linter.unusedVariables false
set_option linter.unusedSimpArgs false
attribute [local irreducible] AW AQ AO
def m2311 (q : Nat) : UInt8 := [2, 3, 1, 1].getD q 0
def mEBD9 (q : Nat) : UInt8 := [14, 11, 13, 9].getD q 0
def encS (w f : Nat → UInt8) : Nat → Nat → UInt8
  | 0 => fun q => f q ^^^ w (0 * 16 + q)
  | i + 1 => fun q => (if i + 1 < 10 then mixF (shF sb 1 (encS w f i)) m2311 else shF sb 1 (encS w f i)) q ^^^ w ((i + 1) * 16 + q)
def enc (w f : Nat → UInt8) : Nat → UInt8 := encS w f 10
def RkOf (ys : List AV) (o : Nat) (w : Nat → UInt8) : Prop := ∀ i, i < 11 → (ys.drop (o + i * 16)).take 16 = arB 16 fun q => w (i * 16 + q)
set_option maxRecDepth 20000 in
set_option maxHeartbeats 4000000 in
theorem encrypt_fn (b : Nat) (f w : Nat → UInt8) (xs ys : List AV) (o oy : Nat) (hx : BoxOf xs o sb) (hw : RkOf ys oy w) : Sp Try.prog 56 [.rp xs o, .rp ys oy, pt b] [stB b f] (IsM (.val (.tuple #[])) (stB b (enc w f))) := by
  refine Sp.enter Try.func56 rfl _ Try.ntmps56 rfl (fun w0 R0 => ?_)
  refine AW.seq ?_
  refine AW.region ?_
  refine AO.op (O.move rfl rfl) rfl rfl rfl ?_
  refine AO.op (O.move rfl rfl) rfl rfl rfl ?_
  refine AO.op (O.nilCheckR rfl rfl) rfl rfl rfl ?_
  refine AO.op (O.idxLR rfl rfl rfl ⟨(by omega), (by omega)⟩) rfl rfl rfl ?_
  refine AO.op (O.loadRK rfl rfl (by exact hw 0 (by omega)) (by exact arB_len _ _)) rfl rfl rfl ?_
  (refine AO.callM1 (i := 0) rfl rfl Try.func44 rfl rfl rfl rfl rfl rfl (sxor_fn _ _ _) (by (dsimp only [List.set, List.append, List.cons_append, List.nil_append, splice, ofConst, AV.cells, List.map, List.map_cons, List.map_nil, List.take, List.drop, Nat.zero_add, Nat.add_zero, Nat.reduceAdd, Nat.reduceMul, Nat.zero_mul, Value.cells, List.toList_toArray, zerosA, List.replicate, List.flatten, List.append_nil]; done)) ?_)
  refine AO.nil ?_
  refine AQ.thenN ?_
  refine AW.seq ?_
  refine AW.region ?_
  refine AO.op (O.assign rfl rfl) rfl rfl rfl ?_
  refine AO.nil ?_
  refine AQ.thenN ?_
  refine AW.block ?_
  refine AW.loopK [(0, _), (1, _), (2, _)] (fun nn E H => ∃ (j : Nat), (j ≤ 10) ∧ nn = 10 - j ∧ E = [(6, .val (.int .i64 ((j + 1 : Nat) : Int)))] ∧ H = [stB b (encS w f j)]) _ (⟨0, by omega, rfl, rfl, rfl⟩) (by repeat (first | exact envNil | refine envCons rfl ?_)) (by repeat (first | exact envNil | refine envCons rfl ?_)) (by repeat (first | exact subPnil | refine subPcons 0 rfl ?_)) ?_
  rintro nn E H ⟨j, hj, rfl, rfl, rfl⟩
  dsimp only [List.cons_append, List.nil_append]
  refine AW.seq ?_
  refine AW.seq ?_
  refine AW.region ?_
  refine AO.op (O.move rfl rfl) rfl rfl rfl ?_
  refine AO.op (O.lss rfl rfl rfl (by rfl)) rfl rfl rfl ?_
  refine AO.nil ?_
  refine AQ.thenN ?_
  refine AW.split rfl (fun h => ?_) (fun h => ?_) <;> (try simp only [decide_eq_true_eq, decide_eq_false_iff_not, beq_iff_eq, beq_eq_false_iff_ne, bne_iff_ne, bne_eq_false_iff_eq, Bool.not_eq_true', Bool.not_eq_false', Bool.not_eq_true, Bool.not_eq_false, ne_eq, Int.not_lt, Int.not_le, Bool.and_eq_true, Bool.or_eq_true, Bool.or_eq_false_iff, Bool.and_eq_false_imp, strOf_toList, Decidable.not_not] at h)
  · skip
    refine AW.skip ?_
    refine AQ.thenN ?_
    refine AW.seq ?_
    refine AW.block ?_
    refine AW.seq ?_
    refine AW.region ?_
    refine AO.op (O.move rfl rfl) rfl rfl rfl ?_
    refine AO.op (O.move rfl rfl) rfl rfl rfl ?_
    refine AO.op (O.nilCheckR rfl rfl) rfl rfl rfl ?_
    refine AO.op (O.fieldAddrR rfl rfl) rfl rfl rfl ?_
    (refine AO.callM1 (i := 0) rfl rfl Try.func46 rfl rfl rfl rfl rfl rfl (shift1_fn _ _ _ _ _ hx) (by (dsimp only [List.set, List.append, List.cons_append, List.nil_append, splice, ofConst, AV.cells, List.map, List.map_cons, List.map_nil, List.take, List.drop, Nat.zero_add, Nat.add_zero, Nat.reduceAdd, Nat.reduceMul, Nat.zero_mul, Value.cells, List.toList_toArray, zerosA, List.replicate, List.flatten, List.append_nil]; done)) ?_)
    refine AO.nil ?_
    refine AQ.thenN ?_
    refine AW.seq ?_
    refine AW.seq ?_
    refine AW.region ?_
    refine AO.op (O.move rfl rfl) rfl rfl rfl ?_
    refine AO.op (O.lss rfl rfl rfl (by rfl)) rfl rfl rfl ?_
    refine AO.nil ?_
    refine AQ.thenN ?_
    refine AW.split rfl (fun h23 => ?_) (fun h23 => ?_) <;> (try simp only [decide_eq_true_eq, decide_eq_false_iff_not, beq_iff_eq, beq_eq_false_iff_ne, bne_iff_ne, bne_eq_false_iff_eq, Bool.not_eq_true', Bool.not_eq_false', Bool.not_eq_true, Bool.not_eq_false, ne_eq, Int.not_lt, Int.not_le, Bool.and_eq_true, Bool.or_eq_true, Bool.or_eq_false_iff, Bool.and_eq_false_imp, strOf_toList, Decidable.not_not] at h23)
    · skip
      have e : (fun q => mixF (shF sb 1 (encS w f j)) m2311 q ^^^ w ((j + 1) * 16 + q)) = encS w f (j + 1) := by rw [encS, if_pos (by omega)]
      refine AW.region ?_
      refine AO.op (O.move rfl rfl) rfl rfl rfl ?_
      refine AO.op (O.build rfl rfl rfl (by rfl)) rfl rfl rfl ?_
      (refine AO.callM1 (i := 0) rfl rfl Try.func45 rfl rfl rfl rfl rfl rfl (mix_fn _ _ m2311) (by (dsimp only [List.set, List.append, List.cons_append, List.nil_append, splice, ofConst, AV.cells, List.map, List.map_cons, List.map_nil, List.take, List.drop, Nat.zero_add, Nat.add_zero, Nat.reduceAdd, Nat.reduceMul, Nat.zero_mul, Value.cells, List.toList_toArray, zerosA, List.replicate, List.flatten, List.append_nil]; done)) ?_)
      refine AO.nil ?_
      refine AQ.thenN ?_
      refine AW.region ?_
      refine AO.op (O.move rfl rfl) rfl rfl rfl ?_
      refine AO.op (O.move rfl rfl) rfl rfl rfl ?_
      refine AO.op (O.move rfl rfl) rfl rfl rfl ?_
      refine AO.op (O.nilCheckR rfl rfl) rfl rfl rfl ?_
      refine AO.op (O.idxLR rfl rfl rfl ⟨(by omega), (by omega)⟩) rfl rfl rfl ?_
      refine AO.op (O.loadRK rfl rfl (by exact hw (j + 1) (by omega)) (by exact arB_len _ _)) rfl rfl rfl ?_
      (refine AO.callM1 (i := 0) rfl rfl Try.func44 rfl rfl rfl rfl rfl rfl (sxor_fn _ _ _) (by (dsimp only [List.set, List.append, List.cons_append, List.nil_append, splice, ofConst, AV.cells, List.map, List.map_cons, List.map_nil, List.take, List.drop, Nat.zero_add, Nat.add_zero, Nat.reduceAdd, Nat.reduceMul, Nat.zero_mul, Value.cells, List.toList_toArray, zerosA, List.replicate, List.flatten, List.append_nil]; done)) ?_)
      refine AO.nil ?_
      refine AQ.blockN ?_
      refine AQ.thenN ?_
      refine AW.region ?_
      refine AO.op (O.move rfl rfl) rfl rfl rfl ?_
      refine AO.op (O.add rfl rfl rfl (by exact wI64 (by omega))) rfl rfl rfl ?_
      refine AO.op (O.assign rfl rfl) rfl rfl rfl ?_
      refine AO.nil ?_
      rw [e]
      refine AQ.loopKN _ _ _ (by omega) (⟨j + 1, by omega, rfl, rfl, rfl⟩) (by repeat (first | exact envNil | refine envCons rfl ?_)) (by repeat (first | exact envNil | refine envCons rfl ?_)) (by repeat (first | exact subPnil | refine subPcons 0 rfl ?_))
    · skip
      have e : (fun q => shF sb 1 (encS w f j) q ^^^ w ((j + 1) * 16 + q)) = encS w f (j + 1) := by rw [encS, if_neg (by omega)]
      refine AW.skip ?_
      refine AQ.thenN ?_
      refine AW.region ?_
      refine AO.op (O.move rfl rfl) rfl rfl rfl ?_
      refine AO.op (O.move rfl rfl) rfl rfl rfl ?_
      refine AO.op (O.move rfl rfl) rfl rfl rfl ?_
      refine AO.op (O.nilCheckR rfl rfl) rfl rfl rfl ?_
      refine AO.op (O.idxLR rfl rfl rfl ⟨(by omega), (by omega)⟩) rfl rfl rfl ?_
      refine AO.op (O.loadRK rfl rfl (by exact hw (j + 1) (by omega)) (by exact arB_len _ _)) rfl rfl rfl ?_
      (refine AO.callM1 (i := 0) rfl rfl Try.func44 rfl rfl rfl rfl rfl rfl (sxor_fn _ _ _) (by (dsimp only [List.set, List.append, List.cons_append, List.nil_append, splice, ofConst, AV.cells, List.map, List.map_cons, List.map_nil, List.take, List.drop, Nat.zero_add, Nat.add_zero, Nat.reduceAdd, Nat.reduceMul, Nat.zero_mul, Value.cells, List.toList_toArray, zerosA, List.replicate, List.flatten, List.append_nil]; done)) ?_)
      refine AO.nil ?_
      refine AQ.blockN ?_
      refine AQ.thenN ?_
      refine AW.region ?_
      refine AO.op (O.move rfl rfl) rfl rfl rfl ?_
      refine AO.op (O.add rfl rfl rfl (by exact wI64 (by omega))) rfl rfl rfl ?_
      refine AO.op (O.assign rfl rfl) rfl rfl rfl ?_
      refine AO.nil ?_
      rw [e]
      refine AQ.loopKN _ _ _ (by omega) (⟨j + 1, by omega, rfl, rfl, rfl⟩) (by repeat (first | exact envNil | refine envCons rfl ?_)) (by repeat (first | exact envNil | refine envCons rfl ?_)) (by repeat (first | exact subPnil | refine subPcons 0 rfl ?_))
  · skip
    obtain rfl : j = 10 := by omega
    refine AW.exit ?_
    refine AQ.thenX ?_
    refine AQ.loopX ?_
    refine AQ.blockX rfl ?_
    refine AQ.retN (AQ.ret0 rfl ⟨_, by repeat (first | exact List.Sublist.slnil | refine List.Sublist.cons_cons _ ?_), List.Perm.refl _⟩ (⟨rfl, rfl⟩))
/-! the cipher -/
def cipA (w : Nat → UInt8) : List AV := arB 512 TB ++ arB 176 w
theorem cip_to (w : Nat → UInt8) : BoxOf (cipA w) 0 sb := fun v => by
  have h := box_to v
  have := v.toNat_lt
  unfold cipA
  rw [List.getElem?_append_left (by rw [arB_len]; omega)]; exact h
theorem cip_rk (w : Nat → UInt8) : RkOf (cipA w) 512 w := fun i hi => by
  unfold cipA
  rw [List.drop_append, List.drop_eq_nil_of_le (by rw [arB_len]; omega), List.nil_append, arB_len, Nat.add_sub_cancel_left]
  exact arB_dt (by omega)
theorem cip_zero : cipA (fun _ => 0) = arB 688 (fun q => if 0 ≤ q ∧ q < 0 + 512 then TB (q - 0) else 0) := by
  unfold cipA
  rw [arB_app]
  refine arB_congr fun q hq => ?_
  by_cases h : q < 512
  · rw [if_pos h, if_pos (by omega)]; rfl
  · rw [if_neg h, if_neg (by omega)]
theorem cip_set (w : Nat → UInt8) {j : Nat} (hj : j = 512) : splice (cipA fun _ => 0) j (arB 176 w) = cipA w := by
  subst hj
  unfold cipA
  rw [splice_eq _ _ _ (by rw [List.length_append, arB_len, arB_len, arB_len]; omega), arB_len, List.take_left' (arB_len _ _), List.drop_eq_nil_of_le (by rw [List.length_append, arB_len, arB_len]; omega), List.append_nil]
theorem cip_len (w : Nat → UInt8) : (cipA w).length = 688 := by unfold cipA; rw [List.length_append, arB_len, arB_len]
instance (priority := 2000) cip83 : TyB Try.prog 83 [(0, 512), (512, 176)] (.agg ⟨List.replicate 688 (.int .u8 0)⟩) := ⟨Try.t83, Try.type83, by kernel_rfl, .inl ⟨_, Try.underlying83, rfl⟩⟩
set_option maxRecDepth 20000 in
theorem fill83 : fillA ([(0, 512), (512, 176)][·]?) ((Value.agg ⟨List.replicate 688 (.int .u8 0)⟩).cells.toList.map AV.val) [(0, .agg (arB 512 TB))] = some (cipA fun _ => 0) := by
  have hz : ((Value.agg ⟨List.replicate 688 (.int .u8 0)⟩).cells.toList.map AV.val) = arB 688 (fun _ => 0) := zeros_arB 688
  rw [hz]
  unfold fillA
  have h1 : (AV.agg (arB 512 TB)).cells.length = 512 := arB_len _ _
  have h2 : (arB 688 fun _ => 0).length = 688 := arB_len _ _
  simp only [List.getElem?_cons_zero, h1, h2]
  rw [show (Nat.beq 512 512 && Nat.ble (0 + 512) 688) = true from by decide]
  simp only [cond_true, fillA]
  refine congrArg some ?_
  show splice (arB 688 fun _ => 0) 0 (arB 512 TB) = _
  rw [arB_splice (by omega), ← cip_zero]
def kf (l : List UInt8) : Nat → UInt8 := fun q => l.getD q 0
theorem fnB_kf {l : List UInt8} {n : Nat} (h : l.length = n) : fnB n (kf l) = l := by
  subst h
  apply List.ext_getElem?
  intro q
  by_cases hq : q < l.length
  · simp [fnB, kf, hq]
  · simp [fnB, hq]
theorem roB_kf {l : List UInt8} {n : Nat} (h : l.length = n) : roB l = .ro false n (arB n (kf l)) := by
  rw [← roB_fnB, fnB_kf h]
set_option maxRecDepth 20000 in
set_option maxHeartbeats 4000000 in
theorem aesnew_fn (key : Nat → UInt8) : Sp Try.prog 40 [.ro false 16 (arB 16 key)] [] (NewBlk pt 83 688 (cipA (wS key))) := by
  refine Sp.enter Try.func40 rfl _ Try.ntmps40 rfl (fun w0 R0 => ?_)
  refine AW.seq ?_
  refine AW.region ?_
  refine AO.op (O.assign rfl rfl) rfl rfl rfl ?_
  refine AO.nil ?_
  refine AQ.thenN ?_
  refine AW.seq ?_
  refine AW.region ?_
  refine AO.op (O.call rfl Try.func36 rfl rfl rfl (subs_fn)) rfl rfl rfl ?_
  refine AO.op (O.build rfl rfl rfl (by exact fill83)) rfl rfl rfl ?_
  refine AO.opB (O.box rfl rfl rfl rfl rfl) rfl rfl rfl ?_
  intro B1
  refine AO.op (O.assign rfl rfl) rfl rfl rfl ?_
  refine AO.nil ?_
  refine AQ.thenN ?_
  refine AW.seq ?_
  refine AW.region ?_
  refine AO.op (O.move rfl rfl) rfl rfl rfl ?_
  refine AO.op (O.move rfl rfl) rfl rfl rfl ?_
  refine AO.op (O.nilCheck rfl rfl) rfl rfl rfl ?_
  refine AO.op (O.fieldAddr rfl rfl) rfl rfl rfl ?_
  refine AO.op (O.move rfl rfl) rfl rfl rfl ?_
  (refine AO.op (O.callLB rfl Try.func37 rfl rfl rfl (by repeat (exact List.Mem.head _)) (sched_fn _ _ (cip_to _)) (plain_arB _ _) (by (repeat (first | exact LendB.nil | refine LendB.lend ?_ | refine LendB.same ?_)); done)) rfl rfl rfl ?_)
  refine AO.op (O.nilCheck rfl rfl) rfl rfl rfl ?_
  refine AO.op (O.fieldAddr rfl rfl) rfl rfl rfl ?_
  (refine AO.store (i := 0) rfl rfl rfl rfl rfl rfl (by exact arB_one _ _) (by exact arB_len _ _) (by exact Nat.ble_eq_true_of_le (Nat.le_of_eq (cip_len _).symm)) (by exact cip_set _ rfl) (by (dsimp only [List.set, List.append, List.cons_append, List.nil_append, splice, ofConst, AV.cells, List.map, List.map_cons, List.map_nil, List.take, List.drop, Nat.zero_add, Nat.add_zero, Nat.reduceAdd, Nat.reduceMul, Nat.zero_mul, Value.cells, List.toList_toArray, zerosA, List.replicate, List.flatten, List.append_nil]; done)) ?_)
  refine AO.nil ?_
  refine AQ.thenN ?_
  refine AW.seq ?_
  refine AW.region ?_
  refine AO.op (O.move rfl rfl) rfl rfl rfl ?_
  refine AO.op (O.assign rfl rfl) rfl rfl rfl ?_
  refine AO.nil ?_
  refine AQ.thenN ?_
  refine AW.ret ?_
  rw [cip_len]
  refine AQ.ret1 rfl rfl ⟨_, by repeat (first | exact List.Sublist.slnil | refine List.Sublist.cons_cons _ ?_), List.Perm.refl _⟩ (⟨B1, rfl, rfl⟩)
end Go.Proofs.Ytochjihddnkhcaa.By

namespace Go.Proofs.Ytochjihddnkhcaa.By
open Go.RowKit L A
set_option linter.unusedVariables false
set_option linter.unusedSimpArgs false
attribute [local irreducible] AW AQ AO
set_option maxRecDepth 20000 in
set_option maxHeartbeats 4000000 in
theorem block_fn (w f : Nat → UInt8) : Sp Try.prog 41 [.rp (cipA w) 0, .agg (arB 16 f)] [] (Is (.agg (arB 16 (enc w f)))) := by
  refine Sp.enter Try.func41 rfl _ Try.ntmps41 rfl (fun w0 R0 => ?_)
  refine AW.seq ?_
  refine AW.region ?_
  refine AO.opB (O.box rfl rfl rfl rfl rfl) rfl rfl rfl ?_
  intro B1
  refine AO.opB (O.alloc rfl (by first | (dsimp only [List.set, List.append, List.cons_append, List.nil_append, splice, ofConst, AV.cells, List.map, List.map_cons, List.map_nil, List.take, List.drop, Nat.zero_add, Nat.add_zero, Nat.reduceAdd, Nat.reduceMul, Nat.zero_mul, Value.cells, List.toList_toArray, zerosA, List.replicate, List.flatten, List.append_nil]; rfl) | (dsimp only [List.set, List.append, List.cons_append, List.nil_append, splice, ofConst, AV.cells, List.map, List.map_cons, List.map_nil, List.take, List.drop, Nat.zero_add, Nat.add_zero, Nat.reduceAdd, Nat.reduceMul, Nat.zero_mul, Value.cells, List.toList_toArray, zerosA, List.replicate, List.flatten, List.append_nil]; done) | rfl) (by rfl)) rfl rfl rfl ?_
  intro B2
  refine AO.nil ?_
  refine AQ.thenN ?_
  refine AW.seq ?_
  refine AW.region ?_
  first | (refine AO.op (O.loadRK rfl rfl (by first | exact List.take_of_length_le (Nat.le_of_eq (arB_len _ _)) | rfl) (by first | exact arB_len _ _ | rfl)) rfl rfl rfl ?_) | (refine AO.op (O.loadK rfl rfl (by repeat (first | exact List.Mem.head _ | refine List.Mem.tail _ ?_)) (by first | exact List.take_of_length_le (Nat.le_of_eq (arB_len _ _)) | rfl) (by first | exact arB_len _ _ | rfl)) rfl rfl rfl ?_) | (refine AO.op (O.loadK rfl rfl (by repeat (first | exact List.Mem.head _ | refine List.Mem.tail _ ?_)) (by first | (dsimp only [List.set, List.append, List.cons_append, List.nil_append, splice, ofConst, AV.cells, List.map, List.map_cons, List.map_nil, List.take, List.drop, Nat.zero_add, Nat.add_zero, Nat.reduceAdd, Nat.reduceMul, Nat.zero_mul, Value.cells, List.toList_toArray, zerosA, List.replicate, List.flatten, List.append_nil]; rfl) | (dsimp only [List.set, List.append, List.cons_append, List.nil_append, splice, ofConst, AV.cells, List.map, List.map_cons, List.map_nil, List.take, List.drop, Nat.zero_add, Nat.add_zero, Nat.reduceAdd, Nat.reduceMul, Nat.zero_mul, Value.cells, List.toList_toArray, zerosA, List.replicate, List.flatten, List.append_nil]; done) | rfl) (by first | exact arB_len _ _ | rfl)) rfl rfl rfl ?_)
  refine AO.opB (O.alloc rfl (by first | (dsimp only [List.set, List.append, List.cons_append, List.nil_append, splice, ofConst, AV.cells, List.map, List.map_cons, List.map_nil, List.take, List.drop, Nat.zero_add, Nat.add_zero, Nat.reduceAdd, Nat.reduceMul, Nat.zero_mul, Value.cells, List.toList_toArray, zerosA, List.replicate, List.flatten, List.append_nil]; rfl) | (dsimp only [List.set, List.append, List.cons_append, List.nil_append, splice, ofConst, AV.cells, List.map, List.map_cons, List.map_nil, List.take, List.drop, Nat.zero_add, Nat.add_zero, Nat.reduceAdd, Nat.reduceMul, Nat.zero_mul, Value.cells, List.toList_toArray, zerosA, List.replicate, List.flatten, List.append_nil]; done) | rfl) (by rfl)) rfl rfl rfl ?_
  intro B3
  first | (refine AO.store (i := 0) rfl rfl rfl rfl rfl rfl (by first | exact arB_one _ _ | rfl | assumption | (simp [AV.cells, AV.one, *]; done) | (simp [AV.cells, AV.one, roB, roI, roO, show ∀ k z, (Value.int k z).oneCell' = true from fun _ _ => rfl, show ∀ k, (Value.bool k).oneCell' = true from fun _ => rfl, *]; done) | simp [AV.cells, AV.one, Value.oneCell', *]) (by first | exact arB_len _ _ | rfl) (by first | exact Nat.ble_eq_true_of_le (Nat.le_of_eq (arB_len _ _).symm) | rfl) (by first | exact splice_arB rfl | exact splice_arB (arB_len _ _) | rfl) (by first | (dsimp only [List.set, List.append, List.cons_append, List.nil_append, splice, ofConst, AV.cells, List.map, List.map_cons, List.map_nil, List.take, List.drop, Nat.zero_add, Nat.add_zero, Nat.reduceAdd, Nat.reduceMul, Nat.zero_mul, Value.cells, List.toList_toArray, zerosA, List.replicate, List.flatten, List.append_nil]; rfl) | (dsimp only [List.set, List.append, List.cons_append, List.nil_append, splice, ofConst, AV.cells, List.map, List.map_cons, List.map_nil, List.take, List.drop, Nat.zero_add, Nat.add_zero, Nat.reduceAdd, Nat.reduceMul, Nat.zero_mul, Value.cells, List.toList_toArray, zerosA, List.replicate, List.flatten, List.append_nil]; done) | rfl) ?_) | (refine AO.store (i := 1) rfl rfl rfl rfl rfl rfl (by first | exact arB_one _ _ | rfl | assumption | (simp [AV.cells, AV.one, *]; done) | (simp [AV.cells, AV.one, roB, roI, roO, show ∀ k z, (Value.int k z).oneCell' = true from fun _ _ => rfl, show ∀ k, (Value.bool k).oneCell' = true from fun _ => rfl, *]; done) | simp [AV.cells, AV.one, Value.oneCell', *]) (by first | exact arB_len _ _ | rfl) (by first | exact Nat.ble_eq_true_of_le (Nat.le_of_eq (arB_len _ _).symm) | rfl) (by first | exact splice_arB rfl | exact splice_arB (arB_len _ _) | rfl) (by first | (dsimp only [List.set, List.append, List.cons_append, List.nil_append, splice, ofConst, AV.cells, List.map, List.map_cons, List.map_nil, List.take, List.drop, Nat.zero_add, Nat.add_zero, Nat.reduceAdd, Nat.reduceMul, Nat.zero_mul, Value.cells, List.toList_toArray, zerosA, List.replicate, List.flatten, List.append_nil]; rfl) | (dsimp only [List.set, List.append, List.cons_append, List.nil_append, splice, ofConst, AV.cells, List.map, List.map_cons, List.map_nil, List.take, List.drop, Nat.zero_add, Nat.add_zero, Nat.reduceAdd, Nat.reduceMul, Nat.zero_mul, Value.cells, List.toList_toArray, zerosA, List.replicate, List.flatten, List.append_nil]; done) | rfl) ?_) | (refine AO.store (i := 2) rfl rfl rfl rfl rfl rfl (by first | exact arB_one _ _ | rfl | assumption | (simp [AV.cells, AV.one, *]; done) | (simp [AV.cells, AV.one, roB, roI, roO, show ∀ k z, (Value.int k z).oneCell' = true from fun _ _ => rfl, show ∀ k, (Value.bool k).oneCell' = true from fun _ => rfl, *]; done) | simp [AV.cells, AV.one, Value.oneCell', *]) (by first | exact arB_len _ _ | rfl) (by first | exact Nat.ble_eq_true_of_le (Nat.le_of_eq (arB_len _ _).symm) | rfl) (by first | exact splice_arB rfl | exact splice_arB (arB_len _ _) | rfl) (by first | (dsimp only [List.set, List.append, List.cons_append, List.nil_append, splice, ofConst, AV.cells, List.map, List.map_cons, List.map_nil, List.take, List.drop, Nat.zero_add, Nat.add_zero, Nat.reduceAdd, Nat.reduceMul, Nat.zero_mul, Value.cells, List.toList_toArray, zerosA, List.replicate, List.flatten, List.append_nil]; rfl) | (dsimp only [List.set, List.append, List.cons_append, List.nil_append, splice, ofConst, AV.cells, List.map, List.map_cons, List.map_nil, List.take, List.drop, Nat.zero_add, Nat.add_zero, Nat.reduceAdd, Nat.reduceMul, Nat.zero_mul, Value.cells, List.toList_toArray, zerosA, List.replicate, List.flatten, List.append_nil]; done) | rfl) ?_) | (refine AO.store (i := 3) rfl rfl rfl rfl rfl rfl (by first | exact arB_one _ _ | rfl | assumption | (simp [AV.cells, AV.one, *]; done) | (simp [AV.cells, AV.one, roB, roI, roO, show ∀ k z, (Value.int k z).oneCell' = true from fun _ _ => rfl, show ∀ k, (Value.bool k).oneCell' = true from fun _ => rfl, *]; done) | simp [AV.cells, AV.one, Value.oneCell', *]) (by first | exact arB_len _ _ | rfl) (by first | exact Nat.ble_eq_true_of_le (Nat.le_of_eq (arB_len _ _).symm) | rfl) (by first | exact splice_arB rfl | exact splice_arB (arB_len _ _) | rfl) (by first | (dsimp only [List.set, List.append, List.cons_append, List.nil_append, splice, ofConst, AV.cells, List.map, List.map_cons, List.map_nil, List.take, List.drop, Nat.zero_add, Nat.add_zero, Nat.reduceAdd, Nat.reduceMul, Nat.zero_mul, Value.cells, List.toList_toArray, zerosA, List.replicate, List.flatten, List.append_nil]; rfl) | (dsimp only [List.set, List.append, List.cons_append, List.nil_append, splice, ofConst, AV.cells, List.map, List.map_cons, List.map_nil, List.take, List.drop, Nat.zero_add, Nat.add_zero, Nat.reduceAdd, Nat.reduceMul, Nat.zero_mul, Value.cells, List.toList_toArray, zerosA, List.replicate, List.flatten, List.append_nil]; done) | rfl) ?_) | (refine AO.store (i := 4) rfl rfl rfl rfl rfl rfl (by first | exact arB_one _ _ | rfl | assumption | (simp [AV.cells, AV.one, *]; done) | (simp [AV.cells, AV.one, roB, roI, roO, show ∀ k z, (Value.int k z).oneCell' = true from fun _ _ => rfl, show ∀ k, (Value.bool k).oneCell' = true from fun _ => rfl, *]; done) | simp [AV.cells, AV.one, Value.oneCell', *]) (by first | exact arB_len _ _ | rfl) (by first | exact Nat.ble_eq_true_of_le (Nat.le_of_eq (arB_len _ _).symm) | rfl) (by first | exact splice_arB rfl | exact splice_arB (arB_len _ _) | rfl) (by first | (dsimp only [List.set, List.append, List.cons_append, List.nil_append, splice, ofConst, AV.cells, List.map, List.map_cons, List.map_nil, List.take, List.drop, Nat.zero_add, Nat.add_zero, Nat.reduceAdd, Nat.reduceMul, Nat.zero_mul, Value.cells, List.toList_toArray, zerosA, List.replicate, List.flatten, List.append_nil]; rfl) | (dsimp only [List.set, List.append, List.cons_append, List.nil_append, splice, ofConst, AV.cells, List.map, List.map_cons, List.map_nil, List.take, List.drop, Nat.zero_add, Nat.add_zero, Nat.reduceAdd, Nat.reduceMul, Nat.zero_mul, Value.cells, List.toList_toArray, zerosA, List.replicate, List.flatten, List.append_nil]; done) | rfl) ?_) | (refine AO.store (i := 5) rfl rfl rfl rfl rfl rfl (by first | exact arB_one _ _ | rfl | assumption | (simp [AV.cells, AV.one, *]; done) | (simp [AV.cells, AV.one, roB, roI, roO, show ∀ k z, (Value.int k z).oneCell' = true from fun _ _ => rfl, show ∀ k, (Value.bool k).oneCell' = true from fun _ => rfl, *]; done) | simp [AV.cells, AV.one, Value.oneCell', *]) (by first | exact arB_len _ _ | rfl) (by first | exact Nat.ble_eq_true_of_le (Nat.le_of_eq (arB_len _ _).symm) | rfl) (by first | exact splice_arB rfl | exact splice_arB (arB_len _ _) | rfl) (by first | (dsimp only [List.set, List.append, List.cons_append, List.nil_append, splice, ofConst, AV.cells, List.map, List.map_cons, List.map_nil, List.take, List.drop, Nat.zero_add, Nat.add_zero, Nat.reduceAdd, Nat.reduceMul, Nat.zero_mul, Value.cells, List.toList_toArray, zerosA, List.replicate, List.flatten, List.append_nil]; rfl) | (dsimp only [List.set, List.append, List.cons_append, List.nil_append, splice, ofConst, AV.cells, List.map, List.map_cons, List.map_nil, List.take, List.drop, Nat.zero_add, Nat.add_zero, Nat.reduceAdd, Nat.reduceMul, Nat.zero_mul, Value.cells, List.toList_toArray, zerosA, List.replicate, List.flatten, List.append_nil]; done) | rfl) ?_) | (refine AO.store (i := 6) rfl rfl rfl rfl rfl rfl (by first | exact arB_one _ _ | rfl | assumption | (simp [AV.cells, AV.one, *]; done) | (simp [AV.cells, AV.one, roB, roI, roO, show ∀ k z, (Value.int k z).oneCell' = true from fun _ _ => rfl, show ∀ k, (Value.bool k).oneCell' = true from fun _ => rfl, *]; done) | simp [AV.cells, AV.one, Value.oneCell', *]) (by first | exact arB_len _ _ | rfl) (by first | exact Nat.ble_eq_true_of_le (Nat.le_of_eq (arB_len _ _).symm) | rfl) (by first | exact splice_arB rfl | exact splice_arB (arB_len _ _) | rfl) (by first | (dsimp only [List.set, List.append, List.cons_append, List.nil_append, splice, ofConst, AV.cells, List.map, List.map_cons, List.map_nil, List.take, List.drop, Nat.zero_add, Nat.add_zero, Nat.reduceAdd, Nat.reduceMul, Nat.zero_mul, Value.cells, List.toList_toArray, zerosA, List.replicate, List.flatten, List.append_nil]; rfl) | (dsimp only [List.set, List.append, List.cons_append, List.nil_append, splice, ofConst, AV.cells, List.map, List.map_cons, List.map_nil, List.take, List.drop, Nat.zero_add, Nat.add_zero, Nat.reduceAdd, Nat.reduceMul, Nat.zero_mul, Value.cells, List.toList_toArray, zerosA, List.replicate, List.flatten, List.append_nil]; done) | rfl) ?_) | (refine AO.store (i := 7) rfl rfl rfl rfl rfl rfl (by first | exact arB_one _ _ | rfl | assumption | (simp [AV.cells, AV.one, *]; done) | (simp [AV.cells, AV.one, roB, roI, roO, show ∀ k z, (Value.int k z).oneCell' = true from fun _ _ => rfl, show ∀ k, (Value.bool k).oneCell' = true from fun _ => rfl, *]; done) | simp [AV.cells, AV.one, Value.oneCell', *]) (by first | exact arB_len _ _ | rfl) (by first | exact Nat.ble_eq_true_of_le (Nat.le_of_eq (arB_len _ _).symm) | rfl) (by first | exact splice_arB rfl | exact splice_arB (arB_len _ _) | rfl) (by first | (dsimp only [List.set, List.append, List.cons_append, List.nil_append, splice, ofConst, AV.cells, List.map, List.map_cons, List.map_nil, List.take, List.drop, Nat.zero_add, Nat.add_zero, Nat.reduceAdd, Nat.reduceMul, Nat.zero_mul, Value.cells, List.toList_toArray, zerosA, List.replicate, List.flatten, List.append_nil]; rfl) | (dsimp only [List.set, List.append, List.cons_append, List.nil_append, splice, ofConst, AV.cells, List.map, List.map_cons, List.map_nil, List.take, List.drop, Nat.zero_add, Nat.add_zero, Nat.reduceAdd, Nat.reduceMul, Nat.zero_mul, Value.cells, List.toList_toArray, zerosA, List.replicate, List.flatten, List.append_nil]; done) | rfl) ?_) | (refine AO.store (i := 8) rfl rfl rfl rfl rfl rfl (by first | exact arB_one _ _ | rfl | assumption | (simp [AV.cells, AV.one, *]; done) | (simp [AV.cells, AV.one, roB, roI, roO, show ∀ k z, (Value.int k z).oneCell' = true from fun _ _ => rfl, show ∀ k, (Value.bool k).oneCell' = true from fun _ => rfl, *]; done) | simp [AV.cells, AV.one, Value.oneCell', *]) (by first | exact arB_len _ _ | rfl) (by first | exact Nat.ble_eq_true_of_le (Nat.le_of_eq (arB_len _ _).symm) | rfl) (by first | exact splice_arB rfl | exact splice_arB (arB_len _ _) | rfl) (by first | (dsimp only [List.set, List.append, List.cons_append, List.nil_append, splice, ofConst, AV.cells, List.map, List.map_cons, List.map_nil, List.take, List.drop, Nat.zero_add, Nat.add_zero, Nat.reduceAdd, Nat.reduceMul, Nat.zero_mul, Value.cells, List.toList_toArray, zerosA, List.replicate, List.flatten, List.append_nil]; rfl) | (dsimp only [List.set, List.append, List.cons_append, List.nil_append, splice, ofConst, AV.cells, List.map, List.map_cons, List.map_nil, List.take, List.drop, Nat.zero_add, Nat.add_zero, Nat.reduceAdd, Nat.reduceMul, Nat.zero_mul, Value.cells, List.toList_toArray, zerosA, List.replicate, List.flatten, List.append_nil]; done) | rfl) ?_) | (refine AO.store (i := 9) rfl rfl rfl rfl rfl rfl (by first | exact arB_one _ _ | rfl | assumption | (simp [AV.cells, AV.one, *]; done) | (simp [AV.cells, AV.one, roB, roI, roO, show ∀ k z, (Value.int k z).oneCell' = true from fun _ _ => rfl, show ∀ k, (Value.bool k).oneCell' = true from fun _ => rfl, *]; done) | simp [AV.cells, AV.one, Value.oneCell', *]) (by first | exact arB_len _ _ | rfl) (by first | exact Nat.ble_eq_true_of_le (Nat.le_of_eq (arB_len _ _).symm) | rfl) (by first | exact splice_arB rfl | exact splice_arB (arB_len _ _) | rfl) (by first | (dsimp only [List.set, List.append, List.cons_append, List.nil_append, splice, ofConst, AV.cells, List.map, List.map_cons, List.map_nil, List.take, List.drop, Nat.zero_add, Nat.add_zero, Nat.reduceAdd, Nat.reduceMul, Nat.zero_mul, Value.cells, List.toList_toArray, zerosA, List.replicate, List.flatten, List.append_nil]; rfl) | (dsimp only [List.set, List.append, List.cons_append, List.nil_append, splice, ofConst, AV.cells, List.map, List.map_cons, List.map_nil, List.take, List.drop, Nat.zero_add, Nat.add_zero, Nat.reduceAdd, Nat.reduceMul, Nat.zero_mul, Value.cells, List.toList_toArray, zerosA, List.replicate, List.flatten, List.append_nil]; done) | rfl) ?_)
  refine AO.nil ?_
  refine AQ.thenN ?_
  refine AW.seq ?_
  refine AW.regionD 6 (by kernel_rfl) (by kernel_rfl) ?_
  simp only [List.take_succ_cons, List.take_zero, List.drop_succ_cons, List.drop_zero]
  refine FA.op (O.move rfl rfl) rfl rfl rfl rfl ?_
  first | (refine FA.op (O.nilCheck rfl rfl) rfl rfl rfl rfl ?_) | (refine FA.op (O.nilCheckR rfl rfl) rfl rfl rfl rfl ?_)
  first | (refine FA.op (O.fieldAddrR rfl rfl) rfl rfl rfl rfl ?_) | (refine FA.op (O.fieldAddr rfl rfl) rfl rfl rfl rfl ?_)
  refine FA.op (O.move rfl rfl) rfl rfl rfl rfl ?_
  first | (refine FA.op (O.nilCheck rfl rfl) rfl rfl rfl rfl ?_) | (refine FA.op (O.nilCheckR rfl rfl) rfl rfl rfl rfl ?_)
  first | (refine FA.op (O.fieldAddrR rfl rfl) rfl rfl rfl rfl ?_) | (refine FA.op (O.fieldAddr rfl rfl) rfl rfl rfl rfl ?_)
  refine FA.nil ?_
  simp only [chosen, List.nil_append, List.cons_append, List.append_nil]
  first | (refine AO.callM1 (i := 0) rfl rfl Try.func56 rfl rfl rfl rfl rfl rfl (encrypt_fn _ f w (cipA w) (cipA w) 0 512 (cip_to w) (cip_rk w)) (by first | (dsimp only [List.set, List.append, List.cons_append, List.nil_append, splice, ofConst, AV.cells, List.map, List.map_cons, List.map_nil, List.take, List.drop, Nat.zero_add, Nat.add_zero, Nat.reduceAdd, Nat.reduceMul, Nat.zero_mul, Value.cells, List.toList_toArray, zerosA, List.replicate, List.flatten, List.append_nil]; rfl) | (dsimp only [List.set, List.append, List.cons_append, List.nil_append, splice, ofConst, AV.cells, List.map, List.map_cons, List.map_nil, List.take, List.drop, Nat.zero_add, Nat.add_zero, Nat.reduceAdd, Nat.reduceMul, Nat.zero_mul, Value.cells, List.toList_toArray, zerosA, List.replicate, List.flatten, List.append_nil]; done) | rfl) ?_) | (refine AO.callM1 (i := 1) rfl rfl Try.func56 rfl rfl rfl rfl rfl rfl (encrypt_fn _ f w (cipA w) (cipA w) 0 512 (cip_to w) (cip_rk w)) (by first | (dsimp only [List.set, List.append, List.cons_append, List.nil_append, splice, ofConst, AV.cells, List.map, List.map_cons, List.map_nil, List.take, List.drop, Nat.zero_add, Nat.add_zero, Nat.reduceAdd, Nat.reduceMul, Nat.zero_mul, Value.cells, List.toList_toArray, zerosA, List.replicate, List.flatten, List.append_nil]; rfl) | (dsimp only [List.set, List.append, List.cons_append, List.nil_append, splice, ofConst, AV.cells, List.map, List.map_cons, List.map_nil, List.take, List.drop, Nat.zero_add, Nat.add_zero, Nat.reduceAdd, Nat.reduceMul, Nat.zero_mul, Value.cells, List.toList_toArray, zerosA, List.replicate, List.flatten, List.append_nil]; done) | rfl) ?_) | (refine AO.callM1 (i := 2) rfl rfl Try.func56 rfl rfl rfl rfl rfl rfl (encrypt_fn _ f w (cipA w) (cipA w) 0 512 (cip_to w) (cip_rk w)) (by first | (dsimp only [List.set, List.append, List.cons_append, List.nil_append, splice, ofConst, AV.cells, List.map, List.map_cons, List.map_nil, List.take, List.drop, Nat.zero_add, Nat.add_zero, Nat.reduceAdd, Nat.reduceMul, Nat.zero_mul, Value.cells, List.toList_toArray, zerosA, List.replicate, List.flatten, List.append_nil]; rfl) | (dsimp only [List.set, List.append, List.cons_append, List.nil_append, splice, ofConst, AV.cells, List.map, List.map_cons, List.map_nil, List.take, List.drop, Nat.zero_add, Nat.add_zero, Nat.reduceAdd, Nat.reduceMul, Nat.zero_mul, Value.cells, List.toList_toArray, zerosA, List.replicate, List.flatten, List.append_nil]; done) | rfl) ?_) | (refine AO.callM1 (i := 3) rfl rfl Try.func56 rfl rfl rfl rfl rfl rfl (encrypt_fn _ f w (cipA w) (cipA w) 0 512 (cip_to w) (cip_rk w)) (by first | (dsimp only [List.set, List.append, List.cons_append, List.nil_append, splice, ofConst, AV.cells, List.map, List.map_cons, List.map_nil, List.take, List.drop, Nat.zero_add, Nat.add_zero, Nat.reduceAdd, Nat.reduceMul, Nat.zero_mul, Value.cells, List.toList_toArray, zerosA, List.replicate, List.flatten, List.append_nil]; rfl) | (dsimp only [List.set, List.append, List.cons_append, List.nil_append, splice, ofConst, AV.cells, List.map, List.map_cons, List.map_nil, List.take, List.drop, Nat.zero_add, Nat.add_zero, Nat.reduceAdd, Nat.reduceMul, Nat.zero_mul, Value.cells, List.toList_toArray, zerosA, List.replicate, List.flatten, List.append_nil]; done) | rfl) ?_) | (refine AO.callM1 (i := 4) rfl rfl Try.func56 rfl rfl rfl rfl rfl rfl (encrypt_fn _ f w (cipA w) (cipA w) 0 512 (cip_to w) (cip_rk w)) (by first | (dsimp only [List.set, List.append, List.cons_append, List.nil_append, splice, ofConst, AV.cells, List.map, List.map_cons, List.map_nil, List.take, List.drop, Nat.zero_add, Nat.add_zero, Nat.reduceAdd, Nat.reduceMul, Nat.zero_mul, Value.cells, List.toList_toArray, zerosA, List.replicate, List.flatten, List.append_nil]; rfl) | (dsimp only [List.set, List.append, List.cons_append, List.nil_append, splice, ofConst, AV.cells, List.map, List.map_cons, List.map_nil, List.take, List.drop, Nat.zero_add, Nat.add_zero, Nat.reduceAdd, Nat.reduceMul, Nat.zero_mul, Value.cells, List.toList_toArray, zerosA, List.replicate, List.flatten, List.append_nil]; done) | rfl) ?_) | (refine AO.callM1 (i := 5) rfl rfl Try.func56 rfl rfl rfl rfl rfl rfl (encrypt_fn _ f w (cipA w) (cipA w) 0 512 (cip_to w) (cip_rk w)) (by first | (dsimp only [List.set, List.append, List.cons_append, List.nil_append, splice, ofConst, AV.cells, List.map, List.map_cons, List.map_nil, List.take, List.drop, Nat.zero_add, Nat.add_zero, Nat.reduceAdd, Nat.reduceMul, Nat.zero_mul, Value.cells, List.toList_toArray, zerosA, List.replicate, List.flatten, List.append_nil]; rfl) | (dsimp only [List.set, List.append, List.cons_append, List.nil_append, splice, ofConst, AV.cells, List.map, List.map_cons, List.map_nil, List.take, List.drop, Nat.zero_add, Nat.add_zero, Nat.reduceAdd, Nat.reduceMul, Nat.zero_mul, Value.cells, List.toList_toArray, zerosA, List.replicate, List.flatten, List.append_nil]; done) | rfl) ?_) | (refine AO.callM1 (i := 6) rfl rfl Try.func56 rfl rfl rfl rfl rfl rfl (encrypt_fn _ f w (cipA w) (cipA w) 0 512 (cip_to w) (cip_rk w)) (by first | (dsimp only [List.set, List.append, List.cons_append, List.nil_append, splice, ofConst, AV.cells, List.map, List.map_cons, List.map_nil, List.take, List.drop, Nat.zero_add, Nat.add_zero, Nat.reduceAdd, Nat.reduceMul, Nat.zero_mul, Value.cells, List.toList_toArray, zerosA, List.replicate, List.flatten, List.append_nil]; rfl) | (dsimp only [List.set, List.append, List.cons_append, List.nil_append, splice, ofConst, AV.cells, List.map, List.map_cons, List.map_nil, List.take, List.drop, Nat.zero_add, Nat.add_zero, Nat.reduceAdd, Nat.reduceMul, Nat.zero_mul, Value.cells, List.toList_toArray, zerosA, List.replicate, List.flatten, List.append_nil]; done) | rfl) ?_) | (refine AO.callM1 (i := 7) rfl rfl Try.func56 rfl rfl rfl rfl rfl rfl (encrypt_fn _ f w (cipA w) (cipA w) 0 512 (cip_to w) (cip_rk w)) (by first | (dsimp only [List.set, List.append, List.cons_append, List.nil_append, splice, ofConst, AV.cells, List.map, List.map_cons, List.map_nil, List.take, List.drop, Nat.zero_add, Nat.add_zero, Nat.reduceAdd, Nat.reduceMul, Nat.zero_mul, Value.cells, List.toList_toArray, zerosA, List.replicate, List.flatten, List.append_nil]; rfl) | (dsimp only [List.set, List.append, List.cons_append, List.nil_append, splice, ofConst, AV.cells, List.map, List.map_cons, List.map_nil, List.take, List.drop, Nat.zero_add, Nat.add_zero, Nat.reduceAdd, Nat.reduceMul, Nat.zero_mul, Value.cells, List.toList_toArray, zerosA, List.replicate, List.flatten, List.append_nil]; done) | rfl) ?_) | (refine AO.callM1 (i := 8) rfl rfl Try.func56 rfl rfl rfl rfl rfl rfl (encrypt_fn _ f w (cipA w) (cipA w) 0 512 (cip_to w) (cip_rk w)) (by first | (dsimp only [List.set, List.append, List.cons_append, List.nil_append, splice, ofConst, AV.cells, List.map, List.map_cons, List.map_nil, List.take, List.drop, Nat.zero_add, Nat.add_zero, Nat.reduceAdd, Nat.reduceMul, Nat.zero_mul, Value.cells, List.toList_toArray, zerosA, List.replicate, List.flatten, List.append_nil]; rfl) | (dsimp only [List.set, List.append, List.cons_append, List.nil_append, splice, ofConst, AV.cells, List.map, List.map_cons, List.map_nil, List.take, List.drop, Nat.zero_add, Nat.add_zero, Nat.reduceAdd, Nat.reduceMul, Nat.zero_mul, Value.cells, List.toList_toArray, zerosA, List.replicate, List.flatten, List.append_nil]; done) | rfl) ?_) | (refine AO.callM1 (i := 9) rfl rfl Try.func56 rfl rfl rfl rfl rfl rfl (encrypt_fn _ f w (cipA w) (cipA w) 0 512 (cip_to w) (cip_rk w)) (by first | (dsimp only [List.set, List.append, List.cons_append, List.nil_append, splice, ofConst, AV.cells, List.map, List.map_cons, List.map_nil, List.take, List.drop, Nat.zero_add, Nat.add_zero, Nat.reduceAdd, Nat.reduceMul, Nat.zero_mul, Value.cells, List.toList_toArray, zerosA, List.replicate, List.flatten, List.append_nil]; rfl) | (dsimp only [List.set, List.append, List.cons_append, List.nil_append, splice, ofConst, AV.cells, List.map, List.map_cons, List.map_nil, List.take, List.drop, Nat.zero_add, Nat.add_zero, Nat.reduceAdd, Nat.reduceMul, Nat.zero_mul, Value.cells, List.toList_toArray, zerosA, List.replicate, List.flatten, List.append_nil]; done) | rfl) ?_)
  refine AO.nil ?_
  refine AQ.thenN ?_
  refine AW.seq ?_
  refine AW.region ?_
  first | (refine AO.op (O.loadRK rfl rfl (by first | exact List.take_of_length_le (Nat.le_of_eq (arB_len _ _)) | rfl) (by first | exact arB_len _ _ | rfl)) rfl rfl rfl ?_) | (refine AO.op (O.loadK rfl rfl (by repeat (first | exact List.Mem.head _ | refine List.Mem.tail _ ?_)) (by first | exact List.take_of_length_le (Nat.le_of_eq (arB_len _ _)) | rfl) (by first | exact arB_len _ _ | rfl)) rfl rfl rfl ?_) | (refine AO.op (O.loadK rfl rfl (by repeat (first | exact List.Mem.head _ | refine List.Mem.tail _ ?_)) (by first | (dsimp only [List.set, List.append, List.cons_append, List.nil_append, splice, ofConst, AV.cells, List.map, List.map_cons, List.map_nil, List.take, List.drop, Nat.zero_add, Nat.add_zero, Nat.reduceAdd, Nat.reduceMul, Nat.zero_mul, Value.cells, List.toList_toArray, zerosA, List.replicate, List.flatten, List.append_nil]; rfl) | (dsimp only [List.set, List.append, List.cons_append, List.nil_append, splice, ofConst, AV.cells, List.map, List.map_cons, List.map_nil, List.take, List.drop, Nat.zero_add, Nat.add_zero, Nat.reduceAdd, Nat.reduceMul, Nat.zero_mul, Value.cells, List.toList_toArray, zerosA, List.replicate, List.flatten, List.append_nil]; done) | rfl) (by first | exact arB_len _ _ | rfl)) rfl rfl rfl ?_)
  first | (refine AO.store (i := 0) rfl rfl rfl rfl rfl rfl (by first | exact arB_one _ _ | rfl | assumption | (simp [AV.cells, AV.one, *]; done) | (simp [AV.cells, AV.one, roB, roI, roO, show ∀ k z, (Value.int k z).oneCell' = true from fun _ _ => rfl, show ∀ k, (Value.bool k).oneCell' = true from fun _ => rfl, *]; done) | simp [AV.cells, AV.one, Value.oneCell', *]) (by first | exact arB_len _ _ | rfl) (by first | exact Nat.ble_eq_true_of_le (Nat.le_of_eq (arB_len _ _).symm) | rfl) (by first | exact splice_arB rfl | exact splice_arB (arB_len _ _) | rfl) (by first | (dsimp only [List.set, List.append, List.cons_append, List.nil_append, splice, ofConst, AV.cells, List.map, List.map_cons, List.map_nil, List.take, List.drop, Nat.zero_add, Nat.add_zero, Nat.reduceAdd, Nat.reduceMul, Nat.zero_mul, Value.cells, List.toList_toArray, zerosA, List.replicate, List.flatten, List.append_nil]; rfl) | (dsimp only [List.set, List.append, List.cons_append, List.nil_append, splice, ofConst, AV.cells, List.map, List.map_cons, List.map_nil, List.take, List.drop, Nat.zero_add, Nat.add_zero, Nat.reduceAdd, Nat.reduceMul, Nat.zero_mul, Value.cells, List.toList_toArray, zerosA, List.replicate, List.flatten, List.append_nil]; done) | rfl) ?_) | (refine AO.store (i := 1) rfl rfl rfl rfl rfl rfl (by first | exact arB_one _ _ | rfl | assumption | (simp [AV.cells, AV.one, *]; done) | (simp [AV.cells, AV.one, roB, roI, roO, show ∀ k z, (Value.int k z).oneCell' = true from fun _ _ => rfl, show ∀ k, (Value.bool k).oneCell' = true from fun _ => rfl, *]; done) | simp [AV.cells, AV.one, Value.oneCell', *]) (by first | exact arB_len _ _ | rfl) (by first | exact Nat.ble_eq_true_of_le (Nat.le_of_eq (arB_len _ _).symm) | rfl) (by first | exact splice_arB rfl | exact splice_arB (arB_len _ _) | rfl) (by first | (dsimp only [List.set, List.append, List.cons_append, List.nil_append, splice, ofConst, AV.cells, List.map, List.map_cons, List.map_nil, List.take, List.drop, Nat.zero_add, Nat.add_zero, Nat.reduceAdd, Nat.reduceMul, Nat.zero_mul, Value.cells, List.toList_toArray, zerosA, List.replicate, List.flatten, List.append_nil]; rfl) | (dsimp only [List.set, List.append, List.cons_append, List.nil_append, splice, ofConst, AV.cells, List.map, List.map_cons, List.map_nil, List.take, List.drop, Nat.zero_add, Nat.add_zero, Nat.reduceAdd, Nat.reduceMul, Nat.zero_mul, Value.cells, List.toList_toArray, zerosA, List.replicate, List.flatten, List.append_nil]; done) | rfl) ?_) | (refine AO.store (i := 2) rfl rfl rfl rfl rfl rfl (by first | exact arB_one _ _ | rfl | assumption | (simp [AV.cells, AV.one, *]; done) | (simp [AV.cells, AV.one, roB, roI, roO, show ∀ k z, (Value.int k z).oneCell' = true from fun _ _ => rfl, show ∀ k, (Value.bool k).oneCell' = true from fun _ => rfl, *]; done) | simp [AV.cells, AV.one, Value.oneCell', *]) (by first | exact arB_len _ _ | rfl) (by first | exact Nat.ble_eq_true_of_le (Nat.le_of_eq (arB_len _ _).symm) | rfl) (by first | exact splice_arB rfl | exact splice_arB (arB_len _ _) | rfl) (by first | (dsimp only [List.set, List.append, List.cons_append, List.nil_append, splice, ofConst, AV.cells, List.map, List.map_cons, List.map_nil, List.take, List.drop, Nat.zero_add, Nat.add_zero, Nat.reduceAdd, Nat.reduceMul, Nat.zero_mul, Value.cells, List.toList_toArray, zerosA, List.replicate, List.flatten, List.append_nil]; rfl) | (dsimp only [List.set, List.append, List.cons_append, List.nil_append, splice, ofConst, AV.cells, List.map, List.map_cons, List.map_nil, List.take, List.drop, Nat.zero_add, Nat.add_zero, Nat.reduceAdd, Nat.reduceMul, Nat.zero_mul, Value.cells, List.toList_toArray, zerosA, List.replicate, List.flatten, List.append_nil]; done) | rfl) ?_) | (refine AO.store (i := 3) rfl rfl rfl rfl rfl rfl (by first | exact arB_one _ _ | rfl | assumption | (simp [AV.cells, AV.one, *]; done) | (simp [AV.cells, AV.one, roB, roI, roO, show ∀ k z, (Value.int k z).oneCell' = true from fun _ _ => rfl, show ∀ k, (Value.bool k).oneCell' = true from fun _ => rfl, *]; done) | simp [AV.cells, AV.one, Value.oneCell', *]) (by first | exact arB_len _ _ | rfl) (by first | exact Nat.ble_eq_true_of_le (Nat.le_of_eq (arB_len _ _).symm) | rfl) (by first | exact splice_arB rfl | exact splice_arB (arB_len _ _) | rfl) (by first | (dsimp only [List.set, List.append, List.cons_append, List.nil_append, splice, ofConst, AV.cells, List.map, List.map_cons, List.map_nil, List.take, List.drop, Nat.zero_add, Nat.add_zero, Nat.reduceAdd, Nat.reduceMul, Nat.zero_mul, Value.cells, List.toList_toArray, zerosA, List.replicate, List.flatten, List.append_nil]; rfl) | (dsimp only [List.set, List.append, List.cons_append, List.nil_append, splice, ofConst, AV.cells, List.map, List.map_cons, List.map_nil, List.take, List.drop, Nat.zero_add, Nat.add_zero, Nat.reduceAdd, Nat.reduceMul, Nat.zero_mul, Value.cells, List.toList_toArray, zerosA, List.replicate, List.flatten, List.append_nil]; done) | rfl) ?_) | (refine AO.store (i := 4) rfl rfl rfl rfl rfl rfl (by first | exact arB_one _ _ | rfl | assumption | (simp [AV.cells, AV.one, *]; done) | (simp [AV.cells, AV.one, roB, roI, roO, show ∀ k z, (Value.int k z).oneCell' = true from fun _ _ => rfl, show ∀ k, (Value.bool k).oneCell' = true from fun _ => rfl, *]; done) | simp [AV.cells, AV.one, Value.oneCell', *]) (by first | exact arB_len _ _ | rfl) (by first | exact Nat.ble_eq_true_of_le (Nat.le_of_eq (arB_len _ _).symm) | rfl) (by first | exact splice_arB rfl | exact splice_arB (arB_len _ _) | rfl) (by first | (dsimp only [List.set, List.append, List.cons_append, List.nil_append, splice, ofConst, AV.cells, List.map, List.map_cons, List.map_nil, List.take, List.drop, Nat.zero_add, Nat.add_zero, Nat.reduceAdd, Nat.reduceMul, Nat.zero_mul, Value.cells, List.toList_toArray, zerosA, List.replicate, List.flatten, List.append_nil]; rfl) | (dsimp only [List.set, List.append, List.cons_append, List.nil_append, splice, ofConst, AV.cells, List.map, List.map_cons, List.map_nil, List.take, List.drop, Nat.zero_add, Nat.add_zero, Nat.reduceAdd, Nat.reduceMul, Nat.zero_mul, Value.cells, List.toList_toArray, zerosA, List.replicate, List.flatten, List.append_nil]; done) | rfl) ?_) | (refine AO.store (i := 5) rfl rfl rfl rfl rfl rfl (by first | exact arB_one _ _ | rfl | assumption | (simp [AV.cells, AV.one, *]; done) | (simp [AV.cells, AV.one, roB, roI, roO, show ∀ k z, (Value.int k z).oneCell' = true from fun _ _ => rfl, show ∀ k, (Value.bool k).oneCell' = true from fun _ => rfl, *]; done) | simp [AV.cells, AV.one, Value.oneCell', *]) (by first | exact arB_len _ _ | rfl) (by first | exact Nat.ble_eq_true_of_le (Nat.le_of_eq (arB_len _ _).symm) | rfl) (by first | exact splice_arB rfl | exact splice_arB (arB_len _ _) | rfl) (by first | (dsimp only [List.set, List.append, List.cons_append, List.nil_append, splice, ofConst, AV.cells, List.map, List.map_cons, List.map_nil, List.take, List.drop, Nat.zero_add, Nat.add_zero, Nat.reduceAdd, Nat.reduceMul, Nat.zero_mul, Value.cells, List.toList_toArray, zerosA, List.replicate, List.flatten, List.append_nil]; rfl) | (dsimp only [List.set, List.append, List.cons_append, List.nil_append, splice, ofConst, AV.cells, List.map, List.map_cons, List.map_nil, List.take, List.drop, Nat.zero_add, Nat.add_zero, Nat.reduceAdd, Nat.reduceMul, Nat.zero_mul, Value.cells, List.toList_toArray, zerosA, List.replicate, List.flatten, List.append_nil]; done) | rfl) ?_) | (refine AO.store (i := 6) rfl rfl rfl rfl rfl rfl (by first | exact arB_one _ _ | rfl | assumption | (simp [AV.cells, AV.one, *]; done) | (simp [AV.cells, AV.one, roB, roI, roO, show ∀ k z, (Value.int k z).oneCell' = true from fun _ _ => rfl, show ∀ k, (Value.bool k).oneCell' = true from fun _ => rfl, *]; done) | simp [AV.cells, AV.one, Value.oneCell', *]) (by first | exact arB_len _ _ | rfl) (by first | exact Nat.ble_eq_true_of_le (Nat.le_of_eq (arB_len _ _).symm) | rfl) (by first | exact splice_arB rfl | exact splice_arB (arB_len _ _) | rfl) (by first | (dsimp only [List.set, List.append, List.cons_append, List.nil_append, splice, ofConst, AV.cells, List.map, List.map_cons, List.map_nil, List.take, List.drop, Nat.zero_add, Nat.add_zero, Nat.reduceAdd, Nat.reduceMul, Nat.zero_mul, Value.cells, List.toList_toArray, zerosA, List.replicate, List.flatten, List.append_nil]; rfl) | (dsimp only [List.set, List.append, List.cons_append, List.nil_append, splice, ofConst, AV.cells, List.map, List.map_cons, List.map_nil, List.take, List.drop, Nat.zero_add, Nat.add_zero, Nat.reduceAdd, Nat.reduceMul, Nat.zero_mul, Value.cells, List.toList_toArray, zerosA, List.replicate, List.flatten, List.append_nil]; done) | rfl) ?_) | (refine AO.store (i := 7) rfl rfl rfl rfl rfl rfl (by first | exact arB_one _ _ | rfl | assumption | (simp [AV.cells, AV.one, *]; done) | (simp [AV.cells, AV.one, roB, roI, roO, show ∀ k z, (Value.int k z).oneCell' = true from fun _ _ => rfl, show ∀ k, (Value.bool k).oneCell' = true from fun _ => rfl, *]; done) | simp [AV.cells, AV.one, Value.oneCell', *]) (by first | exact arB_len _ _ | rfl) (by first | exact Nat.ble_eq_true_of_le (Nat.le_of_eq (arB_len _ _).symm) | rfl) (by first | exact splice_arB rfl | exact splice_arB (arB_len _ _) | rfl) (by first | (dsimp only [List.set, List.append, List.cons_append, List.nil_append, splice, ofConst, AV.cells, List.map, List.map_cons, List.map_nil, List.take, List.drop, Nat.zero_add, Nat.add_zero, Nat.reduceAdd, Nat.reduceMul, Nat.zero_mul, Value.cells, List.toList_toArray, zerosA, List.replicate, List.flatten, List.append_nil]; rfl) | (dsimp only [List.set, List.append, List.cons_append, List.nil_append, splice, ofConst, AV.cells, List.map, List.map_cons, List.map_nil, List.take, List.drop, Nat.zero_add, Nat.add_zero, Nat.reduceAdd, Nat.reduceMul, Nat.zero_mul, Value.cells, List.toList_toArray, zerosA, List.replicate, List.flatten, List.append_nil]; done) | rfl) ?_) | (refine AO.store (i := 8) rfl rfl rfl rfl rfl rfl (by first | exact arB_one _ _ | rfl | assumption | (simp [AV.cells, AV.one, *]; done) | (simp [AV.cells, AV.one, roB, roI, roO, show ∀ k z, (Value.int k z).oneCell' = true from fun _ _ => rfl, show ∀ k, (Value.bool k).oneCell' = true from fun _ => rfl, *]; done) | simp [AV.cells, AV.one, Value.oneCell', *]) (by first | exact arB_len _ _ | rfl) (by first | exact Nat.ble_eq_true_of_le (Nat.le_of_eq (arB_len _ _).symm) | rfl) (by first | exact splice_arB rfl | exact splice_arB (arB_len _ _) | rfl) (by first | (dsimp only [List.set, List.append, List.cons_append, List.nil_append, splice, ofConst, AV.cells, List.map, List.map_cons, List.map_nil, List.take, List.drop, Nat.zero_add, Nat.add_zero, Nat.reduceAdd, Nat.reduceMul, Nat.zero_mul, Value.cells, List.toList_toArray, zerosA, List.replicate, List.flatten, List.append_nil]; rfl) | (dsimp only [List.set, List.append, List.cons_append, List.nil_append, splice, ofConst, AV.cells, List.map, List.map_cons, List.map_nil, List.take, List.drop, Nat.zero_add, Nat.add_zero, Nat.reduceAdd, Nat.reduceMul, Nat.zero_mul, Value.cells, List.toList_toArray, zerosA, List.replicate, List.flatten, List.append_nil]; done) | rfl) ?_) | (refine AO.store (i := 9) rfl rfl rfl rfl rfl rfl (by first | exact arB_one _ _ | rfl | assumption | (simp [AV.cells, AV.one, *]; done) | (simp [AV.cells, AV.one, roB, roI, roO, show ∀ k z, (Value.int k z).oneCell' = true from fun _ _ => rfl, show ∀ k, (Value.bool k).oneCell' = true from fun _ => rfl, *]; done) | simp [AV.cells, AV.one, Value.oneCell', *]) (by first | exact arB_len _ _ | rfl) (by first | exact Nat.ble_eq_true_of_le (Nat.le_of_eq (arB_len _ _).symm) | rfl) (by first | exact splice_arB rfl | exact splice_arB (arB_len _ _) | rfl) (by first | (dsimp only [List.set, List.append, List.cons_append, List.nil_append, splice, ofConst, AV.cells, List.map, List.map_cons, List.map_nil, List.take, List.drop, Nat.zero_add, Nat.add_zero, Nat.reduceAdd, Nat.reduceMul, Nat.zero_mul, Value.cells, List.toList_toArray, zerosA, List.replicate, List.flatten, List.append_nil]; rfl) | (dsimp only [List.set, List.append, List.cons_append, List.nil_append, splice, ofConst, AV.cells, List.map, List.map_cons, List.map_nil, List.take, List.drop, Nat.zero_add, Nat.add_zero, Nat.reduceAdd, Nat.reduceMul, Nat.zero_mul, Value.cells, List.toList_toArray, zerosA, List.replicate, List.flatten, List.append_nil]; done) | rfl) ?_)
  refine AO.nil ?_
  refine AQ.thenN ?_
  refine AW.ret ?_
  refine AQ.retCell rfl rfl (by repeat (first | exact List.Mem.head _ | refine List.Mem.tail _ ?_)) (by first | (dsimp only [List.set, List.append, List.cons_append, List.nil_append, splice, ofConst, AV.cells, List.map, List.map_cons, List.map_nil, List.take, List.drop, Nat.zero_add, Nat.add_zero, Nat.reduceAdd, Nat.reduceMul, Nat.zero_mul, Value.cells, List.toList_toArray, zerosA, List.replicate, List.flatten, List.append_nil]; rfl) | (dsimp only [List.set, List.append, List.cons_append, List.nil_append, splice, ofConst, AV.cells, List.map, List.map_cons, List.map_nil, List.take, List.drop, Nat.zero_add, Nat.add_zero, Nat.reduceAdd, Nat.reduceMul, Nat.zero_mul, Value.cells, List.toList_toArray, zerosA, List.replicate, List.flatten, List.append_nil]; done) | rfl) rfl ⟨_, List.nil_sublist _, .nil⟩ (⟨rfl, rfl⟩)
end Go.Proofs.Ytochjihddnkhcaa.By

namespace Go.Proofs.Ytochjihddnkhcaa.By
open Go.RowKit L A
set_option linter.unusedVariables false
set_option linter.unusedSimpArgs false
attribute [local irreducible] AW AQ AO
def encL (key blk : List UInt8) : List UInt8 := if key.length = 16 ∧ blk.length = 16 then fnB 16 (enc (wS (kf key)) (kf blk)) else []
def encE (key blk : List UInt8) : Int := if key.length = 16 ∧ blk.length = 16 then 0 else 1
set_option maxRecDepth 20000 in
set_option maxHeartbeats 4000000 in
theorem aesenc_fn (key blk : List UInt8) : Sp Try.prog 20 [roB key, roB blk] [] (Is (.tup [roB (encL key blk), .val (.int .i64 (encE key blk))])) := by
  refine Sp.enter Try.func20 rfl _ Try.ntmps20 rfl (fun w0 R0 => ?_)
  refine AW.seq ?_
  refine AW.region ?_
  refine AO.op (O.assign rfl rfl) rfl rfl rfl ?_
  refine AO.op (O.assign rfl rfl) rfl rfl rfl ?_
  refine AO.nil ?_
  refine AQ.thenN ?_
  refine AW.seq ?_
  refine AW.seq ?_
  refine AW.region ?_
  refine AO.op (O.move rfl rfl) rfl rfl rfl ?_
  refine AO.op (O.lenR rfl rfl) rfl rfl rfl ?_
  refine AO.op (O.neq rfl rfl rfl (by rfl)) rfl rfl rfl ?_
  refine AO.op (O.move rfl rfl) rfl rfl rfl ?_
  refine AO.opG rfl rfl rfl (fun hp => O.move rfl rfl) ?_
  refine AO.opG rfl rfl rfl (fun hp => OpW.force 11 rfl (by exact hp) (O.lenR rfl rfl)) ?_
  refine AO.opG rfl rfl rfl (fun hp => OpW.force 12 rfl (by exact hp) (O.neq rfl rfl rfl (by rfl))) ?_
  refine AO.op (O.pickOr rfl rfl rfl rfl (fun h => by exact congrArg (fun b => !b) h)) rfl rfl rfl ?_
  refine AO.nil ?_
  refine AQ.thenN ?_
  refine AW.split rfl (fun h => ?_) (fun h => ?_) <;> (try simp only [decide_eq_true_eq, decide_eq_false_iff_not, beq_iff_eq, beq_eq_false_iff_ne, bne_iff_ne, bne_eq_false_iff_eq, Bool.not_eq_true', Bool.not_eq_false', Bool.not_eq_true, Bool.not_eq_false, ne_eq, Int.not_lt, Int.not_le, Bool.and_eq_true, Bool.or_eq_true, Bool.or_eq_false_iff, Bool.and_eq_false_imp, strOf_toList, Decidable.not_not] at h)
  · skip
    have e1 : encL key blk = [] := if_neg (by omega)
    have e2 : encE key blk = 1 := if_neg (by omega)
    rw [e1, e2]
    refine AW.seq ?_
    refine AW.region ?_
    refine AO.op (O.assign rfl rfl) rfl rfl rfl ?_
    refine AO.op (O.assign rfl rfl) rfl rfl rfl ?_
    refine AO.nil ?_
    refine AQ.thenN ?_
    refine AW.ret ?_
    refine AQ.thenR ?_
    refine FnQ.coe (AQ.ret2 rfl rfl rfl ⟨_, List.nil_sublist _, .nil⟩ ⟨rfl, rfl⟩) (Coe.tup (by (repeat (first | exact CoeL.nil | refine CoeL.cons Coe.rfl ?_ | refine CoeL.cons Coe.nil ?_)); done)) (⟨rfl, rfl⟩)
  · skip
    have hk : key.length = 16 := by omega
    have hb : blk.length = 16 := by omega
    rw [encL, encE, if_pos ⟨hk, hb⟩, if_pos ⟨hk, hb⟩]
    refine AW.g ?_
    refine G.re 0 (.ro false 16 (arB 16 (kf key))) (congrArg some (roB_kf hk)) ?_
    refine AW.u ?_
    refine AW.g ?_
    refine G.re 1 (.ro false 16 (arB 16 (kf blk))) (congrArg some (roB_kf hb)) ?_
    refine AW.u ?_
    refine AW.skip ?_
    refine AQ.thenN ?_
    refine AW.seq ?_
    refine AW.regionA _ (Al.mk' (i := 6) (d := 6) (T := 55) _ rfl rfl rfl rfl rfl (by (dsimp only [List.set, List.append, List.cons_append, List.nil_append, splice, ofConst, AV.cells, List.map, List.map_cons, List.map_nil, List.take, List.drop, Nat.zero_add, Nat.add_zero, Nat.reduceAdd, Nat.reduceMul, Nat.zero_mul, Value.cells, List.toList_toArray, zerosA, List.replicate, List.flatten, List.append_nil]; done)) (by rfl)) [(0, false), (2, false), (3, false), (4, false), (1, true), (5, true), (6, true), (7, true)] (by kernel_rfl) (by kernel_rfl) (by exact splitNil) ?_
    dsimp only [List.eraseIdx]
    refine AN.op rfl (O.move rfl rfl) rfl rfl rfl ?_
    refine AN.op rfl (O.move rfl rfl) rfl rfl rfl ?_
    refine AN.op rfl (O.toArr rfl rfl (by omega) (by omega)) rfl rfl rfl ?_
    refine AN.op rfl (O.loadRK rfl rfl (by exact List.take_of_length_le (Nat.le_of_eq (arB_len _ _))) (by exact arB_len _ _)) rfl rfl rfl ?_
    refine AN.main _ rfl rfl (fun w0 R0 => ?_)
    refine AO.opB (O.call rfl Try.func40 rfl rfl rfl (aesnew_fn _)) rfl rfl rfl ?_
    intro B1
    refine AM.ok ?_
    dsimp only [putE]
    refine AN.main _ rfl rfl (fun w0 R0 => ?_)
    (refine AO.op (O.callLB rfl Try.func41 rfl rfl rfl (by repeat (exact List.Mem.head _)) (block_fn _ _) (plain_arB _ _) (by (repeat (first | exact LendB.nil | refine LendB.lend ?_ | refine LendB.same ?_)); done)) rfl rfl rfl ?_)
    refine AM.ok ?_
    dsimp only [putE]
    refine AN.box rfl ?_
    intro B2
    dsimp only [Al.he]
    refine AN.main _ rfl rfl (fun w0 R0 => ?_)
    (refine AO.store (i := 0) rfl rfl rfl rfl rfl rfl (by exact arB_one _ _) (by exact arB_len _ _) (by rfl) (by exact splice_arB rfl) (by (dsimp only [List.set, List.append, List.cons_append, List.nil_append, splice, ofConst, AV.cells, List.map, List.map_cons, List.map_nil, List.take, List.drop, Nat.zero_add, Nat.add_zero, Nat.reduceAdd, Nat.reduceMul, Nat.zero_mul, Value.cells, List.toList_toArray, zerosA, List.replicate, List.flatten, List.append_nil]; done)) ?_)
    refine AM.okN ?_
    dsimp only [putE]
    refine AN.nil ?_
    dsimp only [List.cons_append, List.nil_append]
    refine AQ.thenN ?_
    refine AW.seq ?_
    refine AW.region ?_
    refine AO.op (O.sliceArrK (p := 0) rfl rfl rfl rfl (by rfl) (by rfl) ⟨by omega, by omega⟩ (by omega)) rfl rfl rfl ?_
    refine AO.op (O.assign rfl rfl) rfl rfl rfl ?_
    refine AO.op (O.assign rfl rfl) rfl rfl rfl ?_
    refine AO.nil ?_
    refine AQ.thenN ?_
    refine AW.ret ?_
    refine AQ.g ?_
    (refine G.freezeSl 0 4 rfl rfl ⟨Nat.le_refl _, by unfold maxLen; omega⟩ ?_; refine G.unfull 4 rfl ?_)
    refine AQ.u ?_
    try dsimp only [List.map, List.eraseIdx, List.cons_append, List.nil_append]
    refine AQ.g ?_
    refine G.re 4 (roB (fnB 16 (enc (wS (kf key)) (kf blk)))) (congrArg some (roB_fnB 16 _).symm) ?_
    refine AQ.u ?_
    refine FnQ.coe (AQ.ret2 rfl rfl rfl ⟨_, List.nil_sublist _, .nil⟩ ⟨rfl, rfl⟩) (Coe.tup (by (repeat (first | exact CoeL.nil | refine CoeL.cons Coe.rfl ?_)); done)) (⟨rfl, rfl⟩)
def decS (w f : Nat → UInt8) : Nat → Nat → UInt8
  | 0 => f
  | k + 1 => shF iv 3 (if 10 - k < 10 then mixF (fun q => decS w f k q ^^^ w ((10 - k) * 16 + q)) mEBD9 else fun q => decS w f k q ^^^ w ((10 - k) * 16 + q))
def dec (w f : Nat → UInt8) (q : Nat) : UInt8 := decS w f 10 q ^^^ w (0 * 16 + q)
def decL (key blk : List UInt8) : List UInt8 := if key.length = 16 ∧ blk.length = 16 then fnB 16 (dec (wS (kf key)) (kf blk)) else []
def expL (key : List UInt8) : List UInt8 := if key.length = 16 then fnB 176 (wS (kf key)) else []
def expE (key : List UInt8) : Int := if key.length = 16 then 0 else 1
end Go.Proofs.Ytochjihddnkhcaa.By

namespace Go.Proofs.Ytochjihddnkhcaa.By
open Go.RowKit L A
set_option linter.unusedVariables false
set_option linter.unusedSimpArgs false
attribute [local irreducible] AW AQ AO
abbrev arr16 (b : Nat) (f : Nat → UInt8) : HE := .blk b 55 16 (arB 16 f)
theorem arr_eq1 {b : Nat} {f g : Nat → UInt8} (h : ∀ q, q < 16 → f q = g q) : arr16 b f = arr16 b g := congrArg (fun x => HE.blk b 55 16 x) (arB_congr h)
set_option maxHeartbeats 2000000 in
theorem rxor_fn (f k : Nat → UInt8) : Sp Try.prog 42 [.agg (arB 16 f), .ro false 16 (arB 16 k)] [] (Is (.agg (arB 16 fun q => f q ^^^ k q))) := by
  refine Sp.enter Try.func42 rfl _ Try.ntmps42 rfl (fun w0 R0 => ?_)
  refine AW.seq ?_
  refine AW.region ?_
  refine AO.opB (O.box rfl rfl rfl rfl rfl) rfl rfl rfl ?_
  intro B1
  (refine AO.opB (O.alloc rfl (by (dsimp only [List.set, List.append, List.cons_append, List.nil_append, splice, ofConst, AV.cells, List.map, List.map_cons, List.map_nil, List.take, List.drop, Nat.zero_add, Nat.add_zero, Nat.reduceAdd, Nat.reduceMul, Nat.zero_mul, Value.cells, List.toList_toArray, zerosA, List.replicate, List.flatten, List.append_nil]; done)) (by rfl)) rfl rfl rfl ?_)
  intro B2
  refine AO.nil ?_
  refine AQ.thenN ?_
  refine AW.seq ?_
  refine AW.seq ?_
  refine AW.region ?_
  refine AO.op (O.move rfl rfl) rfl rfl rfl ?_
  refine AO.nil ?_
  refine AQ.thenN ?_
  refine AW.block ?_
  have e0 : arr16 B1 f = arr16 B1 (fun q => if q < 0 then f q ^^^ k q else f q) := arr_eq1 fun q _ => (if_neg (by omega)).symm
  refine AW.loopK [(1, _), (2, _), (4, _)] (fun nn E H => ∃ (i : Nat), (i ≤ 16) ∧ nn = 16 - i ∧ E = [(6, .val (.int .i64 (i : Int)))] ∧ H = [arr16 B2 (fun _ => 0), arr16 B1 (fun q => if q < i then f q ^^^ k q else f q)]) _ (⟨0, by omega, rfl, rfl, congrArg (fun x => [arr16 B2 (fun _ => 0), x]) e0⟩) (by repeat (first | exact envNil | refine envCons rfl ?_)) (by repeat (first | exact envNil | refine envCons rfl ?_)) (by repeat (first | exact subPnil | refine subPcons 0 rfl ?_)) ?_
  rintro nn E H ⟨i, hi, rfl, rfl, rfl⟩
  dsimp only [List.cons_append, List.nil_append]
  refine AW.seq ?_
  refine AW.region ?_
  refine AO.op (O.lss rfl rfl rfl (by rfl)) rfl rfl rfl ?_
  refine AO.nil ?_
  refine AQ.thenN ?_
  refine AW.seq ?_
  refine AW.split rfl (fun h => ?_) (fun h => ?_) <;> (try simp only [decide_eq_true_eq, decide_eq_false_iff_not, beq_iff_eq, beq_eq_false_iff_ne, bne_iff_ne, bne_eq_false_iff_eq, Bool.not_eq_true', Bool.not_eq_false', Bool.not_eq_true, Bool.not_eq_false, ne_eq, Int.not_lt, Int.not_le, Bool.and_eq_true, Bool.or_eq_true, Bool.or_eq_false_iff, Bool.and_eq_false_imp, strOf_toList, Decidable.not_not] at h)
  · skip
    refine AW.skip ?_
    refine AQ.thenN ?_
    refine AW.seq ?_
    refine AW.block ?_
    refine AW.seq ?_
    refine AW.region ?_
    refine AO.op (O.move rfl rfl) rfl rfl rfl ?_
    refine AO.op (O.assign rfl rfl) rfl rfl rfl ?_
    refine AO.nil ?_
    refine AQ.thenN ?_
    refine AW.regionD 9 (by kernel_rfl) (by kernel_rfl) ?_
    simp only [List.take_succ_cons, List.take_zero, List.drop_succ_cons, List.drop_zero]
    refine FA.op (O.move rfl rfl) rfl rfl rfl rfl ?_
    refine FA.op (O.idxL rfl rfl rfl ⟨(by omega), (by omega)⟩) rfl rfl rfl rfl ?_
    refine FA.op (O.load rfl rfl (by repeat (first | exact List.Mem.head _ | refine List.Mem.tail _ ?_)) (by exact arB_get (k := i) (by omega) (by omega))) rfl rfl rfl rfl ?_
    refine FA.op (O.move rfl rfl) rfl rfl rfl rfl ?_
    refine FA.op (O.move rfl rfl) rfl rfl rfl rfl ?_
    refine FA.op (O.idxR rfl rfl rfl ⟨(by omega), (by omega)⟩) rfl rfl rfl rfl ?_
    refine FA.op (O.loadR rfl rfl (by exact arB_get (k := i) (by omega) (by omega))) rfl rfl rfl rfl ?_
    refine FA.op (O.xor_ rfl rfl rfl xorU8) rfl rfl rfl rfl ?_
    refine FA.op (O.idxL rfl rfl rfl ⟨(by omega), (by omega)⟩) rfl rfl rfl rfl ?_
    refine FA.nil ?_
    simp only [chosen, List.nil_append, List.cons_append, List.append_nil]
    (refine AO.store (i := 1) rfl rfl rfl rfl rfl rfl (by rfl) (by rfl) (by exact Nat.ble_eq_true_of_le (by rw [arB_len]; omega)) (by exact arB_set (k := i) (by omega) _ (by omega)) (by (dsimp only [List.set, List.append, List.cons_append, List.nil_append, splice, ofConst, AV.cells, List.map, List.map_cons, List.map_nil, List.take, List.drop, Nat.zero_add, Nat.add_zero, Nat.reduceAdd, Nat.reduceMul, Nat.zero_mul, Value.cells, List.toList_toArray, zerosA, List.replicate, List.flatten, List.append_nil]; done)) ?_)
    refine AO.nil ?_
    refine AQ.blockN ?_
    refine AQ.thenN ?_
    refine AW.region ?_
    refine AO.op (O.add rfl rfl rfl (by exact wI64 (by omega))) rfl rfl rfl ?_
    refine AO.op (O.move rfl rfl) rfl rfl rfl ?_
    refine AO.nil ?_
    have e : arr16 B1 (fun q => if q = i then (if i < i then f i ^^^ k i else f i) ^^^ k i else if q < i then f q ^^^ k q else f q) = arr16 B1 (fun q => if q < i + 1 then f q ^^^ k q else f q) := arr_eq1 fun q _ => by
      rcases Nat.lt_trichotomy q i with h1 | rfl | h1
      · rw [if_neg (by omega), if_pos h1, if_pos (by omega)]
      · rw [if_pos rfl, if_neg (by omega), if_pos (by omega)]
      · rw [if_neg (by omega), if_neg (by omega), if_neg (by omega)]
    refine AQ.loopKN _ _ _ (by omega) (⟨i + 1, by omega, rfl, rfl, congrArg (fun x => [arr16 B2 (fun _ => 0), x]) e⟩) (by repeat (first | exact envNil | refine envCons rfl ?_)) (by repeat (first | exact envNil | refine envCons rfl ?_)) (by repeat (first | exact subPnil | refine subPcons 0 rfl ?_))
  · skip
    obtain rfl : i = 16 := by omega
    refine AW.exit ?_
    refine AQ.thenX ?_
    refine AQ.loopX ?_
    refine AQ.blockX rfl ?_
    refine AQ.thenN ?_
    refine AW.seq ?_
    refine AW.region ?_
    refine AO.op (O.loadK rfl rfl (by repeat (first | exact List.Mem.head _ | refine List.Mem.tail _ ?_)) (by exact List.take_of_length_le (Nat.le_of_eq (arB_len _ _))) (by rfl)) rfl rfl rfl ?_
    (refine AO.store (i := 0) rfl rfl rfl rfl rfl rfl (by rfl) (by rfl) (by rfl) (by exact splice_arB rfl) (by (dsimp only [List.set, List.append, List.cons_append, List.nil_append, splice, ofConst, AV.cells, List.map, List.map_cons, List.map_nil, List.take, List.drop, Nat.zero_add, Nat.add_zero, Nat.reduceAdd, Nat.reduceMul, Nat.zero_mul, Value.cells, List.toList_toArray, zerosA, List.replicate, List.flatten, List.append_nil]; done)) ?_)
    refine AO.nil ?_
    refine AQ.thenN ?_
    refine AW.ret ?_
    refine AQ.retCell (ys := arB 16 (fun q => if q < 16 then f q ^^^ k q else f q)) rfl rfl (by repeat (exact List.Mem.head _)) (List.take_of_length_le (Nat.le_of_eq (arB_len _ _))) (arB_len _ _) ⟨_, List.nil_sublist _, .nil⟩ ⟨congrArg AV.agg (arB_congr fun q hq => if_pos hq), rfl⟩
def rK (f m : Nat → UInt8) (c r : Nat) : Nat → UInt8
  | 0 => 0
  | k + 1 => rK f m c r k ^^^ prod (f (4 * c + k)) (m ((k + 4 - r) % 4))
def rmixF (f m : Nat → UInt8) (q : Nat) : UInt8 := rK f m (q / 4) (q % 4) 4
theorem xor_lc (a b c : UInt8) : a ^^^ (b ^^^ c) = b ^^^ (a ^^^ c) := by rw [← UInt8.xor_assoc, UInt8.xor_comm a b, UInt8.xor_assoc]
theorem rmix_eq (f m : Nat → UInt8) (q : Nat) : rmixF f m q = mixF f m q := by
  unfold rmixF mixF
  have h4 : q % 4 < 4 := Nat.mod_lt _ (by decide)
  simp only [rK, mixK]
  generalize q / 4 = c at *
  generalize q % 4 = r at *
  rcases (show r = 0 ∨ r = 1 ∨ r = 2 ∨ r = 3 by omega) with rfl | rfl | rfl | rfl <;> simp [UInt8.xor_assoc, UInt8.xor_comm, xor_lc]
def rU (f m : Nat → UInt8) (c r k q : Nat) : UInt8 := if q = 4 * c + r then rK f m c r k else if q < 4 * c + r then rmixF f m q else 0
theorem rU_next (f m : Nat → UInt8) {c r : Nat} (hr : r < 4) (q : Nat) : rU f m c r 4 q = rU f m c (r + 1) 0 q := by
  unfold rU
  rcases Nat.lt_trichotomy q (4 * c + r) with h1 | h1 | h1
  · rw [if_neg (by omega), if_pos h1, if_neg (by omega), if_pos (by omega)]
  · rw [if_pos h1, if_neg (by omega), if_pos (by omega), rmixF, h1, show (4 * c + r) / 4 = c by omega, show (4 * c + r) % 4 = r by omega]
  · rw [if_neg (by omega), if_neg (by omega)]
    by_cases h2 : q = 4 * c + (r + 1)
    · rw [if_pos h2]; rfl
    · rw [if_neg h2, if_neg (by omega)]
theorem rU_row (f m : Nat → UInt8) {c : Nat} (q : Nat) : rU f m c 4 0 q = rU f m (c + 1) 0 0 q := by
  unfold rU
  rw [show 4 * (c + 1) + 0 = 4 * c + 4 by omega]
  by_cases h : q = 4 * c + 4
  · rw [if_pos h, if_pos h]; rfl
  · rw [if_neg h, if_neg h]
theorem rU_zero (f m : Nat → UInt8) (q : Nat) : rU f m 0 0 0 q = 0 := by
  unfold rU
  by_cases h : q = 4 * 0 + 0
  · rw [if_pos h]; rfl
  · rw [if_neg h, if_neg (by omega)]
set_option maxHeartbeats 4000000 in
theorem rmix_fn (f m : Nat → UInt8) : Sp Try.prog 43 [.agg (arB 16 f), .agg (arB 4 m)] [] (Is (.agg (arB 16 (mixF f m)))) := by
  refine Sp.enter Try.func43 rfl _ Try.ntmps43 rfl (fun w0 R0 => ?_)
  refine AW.seq ?_
  refine AW.region ?_
  refine AO.opB (O.box rfl rfl rfl rfl rfl) rfl rfl rfl ?_
  intro B1
  refine AO.opB (O.box rfl rfl rfl rfl rfl) rfl rfl rfl ?_
  intro B2
  (refine AO.opB (O.alloc rfl (by (dsimp only [List.set, List.append, List.cons_append, List.nil_append, splice, ofConst, AV.cells, List.map, List.map_cons, List.map_nil, List.take, List.drop, Nat.zero_add, Nat.add_zero, Nat.reduceAdd, Nat.reduceMul, Nat.zero_mul, Value.cells, List.toList_toArray, zerosA, List.replicate, List.flatten, List.append_nil]; done)) (by rfl)) rfl rfl rfl ?_)
  intro B3
  refine AO.nil ?_
  refine AQ.thenN ?_
  refine AW.seq ?_
  refine AW.region ?_
  (refine AO.opB (O.alloc rfl (by (dsimp only [List.set, List.append, List.cons_append, List.nil_append, splice, ofConst, AV.cells, List.map, List.map_cons, List.map_nil, List.take, List.drop, Nat.zero_add, Nat.add_zero, Nat.reduceAdd, Nat.reduceMul, Nat.zero_mul, Value.cells, List.toList_toArray, zerosA, List.replicate, List.flatten, List.append_nil]; done)) (by rfl)) rfl rfl rfl ?_)
  intro B4
  refine AO.nil ?_
  refine AQ.thenN ?_
  refine AW.seq ?_
  refine AW.seq ?_
  refine AW.region ?_
  refine AO.op (O.move rfl rfl) rfl rfl rfl ?_
  refine AO.nil ?_
  refine AQ.thenN ?_
  refine AW.block ?_
  have e0 : arr16 B4 (fun _ => 0) = arr16 B4 (rU f m 0 0 0) := arr_eq1 fun q _ => (rU_zero f m q).symm
  refine AW.loopK [(2, _), (3, _), (4, _), (5, _)] (fun nn E H => ∃ (c : Nat), (c ≤ 4) ∧ nn = 4 - c ∧ E = [(9, .val (.int .i64 (c : Int)))] ∧ H = [arr16 B4 (rU f m c 0 0), arr16 B3 (fun _ => 0), .blk B2 66 4 (arB 4 m), arr16 B1 f]) _ (⟨0, by omega, rfl, rfl, congrArg (fun x => [x, arr16 B3 (fun _ => 0), .blk B2 66 4 (arB 4 m), arr16 B1 f]) e0⟩) (by repeat (first | exact envNil | refine envCons rfl ?_)) (by repeat (first | exact envNil | refine envCons rfl ?_)) (by repeat (first | exact subPnil | refine subPcons 0 rfl ?_)) ?_
  rintro nn E H ⟨c, hc, rfl, rfl, rfl⟩
  dsimp only [List.cons_append, List.nil_append]
  refine AW.seq ?_
  refine AW.region ?_
  refine AO.op (O.lss rfl rfl rfl (by rfl)) rfl rfl rfl ?_
  refine AO.nil ?_
  refine AQ.thenN ?_
  refine AW.seq ?_
  refine AW.split rfl (fun h => ?_) (fun h => ?_) <;> (try simp only [decide_eq_true_eq, decide_eq_false_iff_not, beq_iff_eq, beq_eq_false_iff_ne, bne_iff_ne, bne_eq_false_iff_eq, Bool.not_eq_true', Bool.not_eq_false', Bool.not_eq_true, Bool.not_eq_false, ne_eq, Int.not_lt, Int.not_le, Bool.and_eq_true, Bool.or_eq_true, Bool.or_eq_false_iff, Bool.and_eq_false_imp, strOf_toList, Decidable.not_not] at h)
  · skip
    refine AW.skip ?_
    refine AQ.thenN ?_
    refine AW.seq ?_
    refine AW.block ?_
    refine AW.seq ?_
    refine AW.region ?_
    refine AO.op (O.move rfl rfl) rfl rfl rfl ?_
    refine AO.op (O.assign rfl rfl) rfl rfl rfl ?_
    refine AO.nil ?_
    refine AQ.thenN ?_
    refine AW.seq ?_
    refine AW.region ?_
    refine AO.op (O.move rfl rfl) rfl rfl rfl ?_
    refine AO.nil ?_
    refine AQ.thenN ?_
    refine AW.block ?_
    refine AW.loopK [(2, _), (3, _), (4, _), (5, _), (6, _), (9, _)] (fun nn E H => ∃ (r : Nat), (r ≤ 4) ∧ nn = 4 - r ∧ E = [(12, .val (.int .i64 (r : Int)))] ∧ H = [arr16 B4 (rU f m c r 0), arr16 B3 (fun _ => 0), .blk B2 66 4 (arB 4 m), arr16 B1 f]) _ (⟨0, by omega, rfl, rfl, rfl⟩) (by repeat (first | exact envNil | refine envCons rfl ?_)) (by repeat (first | exact envNil | refine envCons rfl ?_)) (by repeat (first | exact subPnil | refine subPcons 0 rfl ?_)) ?_
    rintro nn E H ⟨r, hr, rfl, rfl, rfl⟩
    dsimp only [List.cons_append, List.nil_append]
    refine AW.seq ?_
    refine AW.region ?_
    refine AO.op (O.lss rfl rfl rfl (by rfl)) rfl rfl rfl ?_
    refine AO.nil ?_
    refine AQ.thenN ?_
    refine AW.seq ?_
    refine AW.split rfl (fun h2 => ?_) (fun h2 => ?_) <;> (try simp only [decide_eq_true_eq, decide_eq_false_iff_not, beq_iff_eq, beq_eq_false_iff_ne, bne_iff_ne, bne_eq_false_iff_eq, Bool.not_eq_true', Bool.not_eq_false', Bool.not_eq_true, Bool.not_eq_false, ne_eq, Int.not_lt, Int.not_le, Bool.and_eq_true, Bool.or_eq_true, Bool.or_eq_false_iff, Bool.and_eq_false_imp, strOf_toList, Decidable.not_not] at h2)
    · skip
      have hr' : r < 4 := by omega
      have hc' : c < 4 := by omega
      refine AW.skip ?_
      refine AQ.thenN ?_
      refine AW.seq ?_
      refine AW.block ?_
      refine AW.seq ?_
      refine AW.region ?_
      refine AO.op (O.move rfl rfl) rfl rfl rfl ?_
      refine AO.op (O.assign rfl rfl) rfl rfl rfl ?_
      refine AO.nil ?_
      refine AQ.thenN ?_
      refine AW.seq ?_
      refine AW.region ?_
      refine AO.op (O.move rfl rfl) rfl rfl rfl ?_
      refine AO.nil ?_
      refine AQ.thenN ?_
      refine AW.block ?_
      refine AW.loopK [(2, _), (3, _), (4, _), (5, _), (6, _), (7, _), (9, _), (12, _)] (fun nn E H => ∃ (k : Nat), (k ≤ 4) ∧ nn = 4 - k ∧ E = [(15, .val (.int .i64 (k : Int)))] ∧ H = [arr16 B4 (rU f m c r k), arr16 B3 (fun _ => 0), .blk B2 66 4 (arB 4 m), arr16 B1 f]) _ (⟨0, by omega, rfl, rfl, rfl⟩) (by repeat (first | exact envNil | refine envCons rfl ?_)) (by repeat (first | exact envNil | refine envCons rfl ?_)) (by repeat (first | exact subPnil | refine subPcons 0 rfl ?_)) ?_
      rintro nn E H ⟨k, hk, rfl, rfl, rfl⟩
      dsimp only [List.cons_append, List.nil_append]
      refine AW.seq ?_
      refine AW.region ?_
      refine AO.op (O.lss rfl rfl rfl (by rfl)) rfl rfl rfl ?_
      refine AO.nil ?_
      refine AQ.thenN ?_
      refine AW.seq ?_
      refine AW.split rfl (fun h3 => ?_) (fun h3 => ?_) <;> (try simp only [decide_eq_true_eq, decide_eq_false_iff_not, beq_iff_eq, beq_eq_false_iff_ne, bne_iff_ne, bne_eq_false_iff_eq, Bool.not_eq_true', Bool.not_eq_false', Bool.not_eq_true, Bool.not_eq_false, ne_eq, Int.not_lt, Int.not_le, Bool.and_eq_true, Bool.or_eq_true, Bool.or_eq_false_iff, Bool.and_eq_false_imp, strOf_toList, Decidable.not_not] at h3)
      · skip
        refine AW.skip ?_
        refine AQ.thenN ?_
        refine AW.seq ?_
        refine AW.block ?_
        refine AW.seq ?_
        refine AW.region ?_
        refine AO.op (O.move rfl rfl) rfl rfl rfl ?_
        refine AO.op (O.assign rfl rfl) rfl rfl rfl ?_
        refine AO.nil ?_
        refine AQ.thenN ?_
        refine AW.regionD 22 (by kernel_rfl) (by kernel_rfl) ?_
        simp only [List.take_succ_cons, List.take_zero, List.drop_succ_cons, List.drop_zero]
        refine FA.op (O.move rfl rfl) rfl rfl rfl rfl ?_
        refine FA.op (O.mul rfl rfl rfl (by exact wI64 (by omega))) rfl rfl rfl rfl ?_
        refine FA.op (O.move rfl rfl) rfl rfl rfl rfl ?_
        refine FA.op (O.add rfl rfl rfl (by exact wI64 (by omega))) rfl rfl rfl rfl ?_
        refine FA.op (O.idxL rfl rfl rfl ⟨(by omega), (by omega)⟩) rfl rfl rfl rfl ?_
        refine FA.op (O.load rfl rfl (by repeat (exact List.Mem.head _)) (by exact arB_get (k := 4 * c + r) (by omega) (by omega))) rfl rfl rfl rfl ?_
        refine FA.op (O.move rfl rfl) rfl rfl rfl rfl ?_
        refine FA.op (O.mul rfl rfl rfl (by exact wI64 (by omega))) rfl rfl rfl rfl ?_
        refine FA.op (O.move rfl rfl) rfl rfl rfl rfl ?_
        refine FA.op (O.add rfl rfl rfl (by exact wI64 (by omega))) rfl rfl rfl rfl ?_
        refine FA.op (O.idxL rfl rfl rfl ⟨(by omega), (by omega)⟩) rfl rfl rfl rfl ?_
        refine FA.op (O.load rfl rfl (by repeat (first | exact List.Mem.head _ | refine List.Mem.tail _ ?_)) (by exact arB_get (k := 4 * c + k) (by omega) (by omega))) rfl rfl rfl rfl ?_
        refine FA.op (O.move rfl rfl) rfl rfl rfl rfl ?_
        refine FA.op (O.move rfl rfl) rfl rfl rfl rfl ?_
        refine FA.op (O.sub rfl rfl rfl (by exact wI64 (by omega))) rfl rfl rfl rfl ?_
        refine FA.op (O.add rfl rfl rfl (by exact wI64 (by omega))) rfl rfl rfl rfl ?_
        refine FA.op (O.rem rfl rfl rfl (by omega) (tmodE (by omega))) rfl rfl rfl rfl ?_
        refine FA.op (O.idxL rfl rfl rfl ⟨(by omega), (by omega)⟩) rfl rfl rfl rfl ?_
        refine FA.op (O.load rfl rfl (by repeat (first | exact List.Mem.head _ | refine List.Mem.tail _ ?_)) (by exact arB_get (k := (k + 4 - r) % 4) (by omega) (by omega))) rfl rfl rfl rfl ?_
        refine FA.op (O.call rfl Try.func54 rfl rfl rfl (mul_fn _ _)) rfl rfl rfl rfl ?_
        refine FA.op (O.xor_ rfl rfl rfl xorU8) rfl rfl rfl rfl ?_
        refine FA.op (O.idxL rfl rfl rfl ⟨(by omega), (by omega)⟩) rfl rfl rfl rfl ?_
        refine FA.nil ?_
        simp only [chosen, List.nil_append, List.cons_append, List.append_nil]
        (refine AO.store (i := 0) rfl rfl rfl rfl rfl rfl (by rfl) (by rfl) (by exact Nat.ble_eq_true_of_le (by rw [arB_len]; omega)) (by exact arB_set (k := 4 * c + r) (by omega) _ (by omega)) (by (dsimp only [List.set, List.append, List.cons_append, List.nil_append, splice, ofConst, AV.cells, List.map, List.map_cons, List.map_nil, List.take, List.drop, Nat.zero_add, Nat.add_zero, Nat.reduceAdd, Nat.reduceMul, Nat.zero_mul, Value.cells, List.toList_toArray, zerosA, List.replicate, List.flatten, List.append_nil]; done)) ?_)
        refine AO.nil ?_
        refine AQ.blockN ?_
        refine AQ.thenN ?_
        refine AW.region ?_
        refine AO.op (O.add rfl rfl rfl (by exact wI64 (by omega))) rfl rfl rfl ?_
        refine AO.op (O.move rfl rfl) rfl rfl rfl ?_
        refine AO.nil ?_
        have e : arr16 B4 (fun q => if q = 4 * c + r then rU f m c r k (4 * c + r) ^^^ prod (f (4 * c + k)) (m ((k + 4 - r) % 4)) else rU f m c r k q) = arr16 B4 (rU f m c r (k + 1)) := arr_eq1 fun q _ => by
          unfold rU
          by_cases h1 : q = 4 * c + r
          · rw [if_pos h1, if_pos rfl, if_pos h1]; rfl
          · rw [if_neg h1, if_neg h1, if_neg h1]
        refine AQ.loopKN _ _ _ (by omega) (⟨k + 1, by omega, rfl, rfl, congrArg (fun x => [x, arr16 B3 (fun _ => 0), .blk B2 66 4 (arB 4 m), arr16 B1 f]) e⟩) (by repeat (first | exact envNil | refine envCons rfl ?_)) (by repeat (first | exact envNil | refine envCons rfl ?_)) (by repeat (first | exact subPnil | refine subPcons 0 rfl ?_))
      · skip
        obtain rfl : k = 4 := by omega
        refine AW.exit ?_
        refine AQ.thenX ?_
        refine AQ.loopX ?_
        refine AQ.blockX rfl ?_
        refine AQ.blockN ?_
        refine AQ.thenN ?_
        refine AW.region ?_
        refine AO.op (O.add rfl rfl rfl (by exact wI64 (by omega))) rfl rfl rfl ?_
        refine AO.op (O.move rfl rfl) rfl rfl rfl ?_
        refine AO.nil ?_
        have e : arr16 B4 (rU f m c r 4) = arr16 B4 (rU f m c (r + 1) 0) := arr_eq1 fun q _ => rU_next f m hr' q
        refine AQ.loopKN _ _ _ (by omega) (⟨r + 1, by omega, rfl, rfl, congrArg (fun x => [x, arr16 B3 (fun _ => 0), .blk B2 66 4 (arB 4 m), arr16 B1 f]) e⟩) (by repeat (first | exact envNil | refine envCons rfl ?_)) (by repeat (first | exact envNil | refine envCons rfl ?_)) (by repeat (first | exact subPnil | refine subPcons 0 rfl ?_))
    · skip
      obtain rfl : r = 4 := by omega
      refine AW.exit ?_
      refine AQ.thenX ?_
      refine AQ.loopX ?_
      refine AQ.blockX rfl ?_
      refine AQ.blockN ?_
      refine AQ.thenN ?_
      refine AW.region ?_
      refine AO.op (O.add rfl rfl rfl (by exact wI64 (by omega))) rfl rfl rfl ?_
      refine AO.op (O.move rfl rfl) rfl rfl rfl ?_
      refine AO.nil ?_
      have e : arr16 B4 (rU f m c 4 0) = arr16 B4 (rU f m (c + 1) 0 0) := arr_eq1 fun q _ => rU_row f m q
      refine AQ.loopKN _ _ _ (by omega) (⟨c + 1, by omega, rfl, rfl, congrArg (fun x => [x, arr16 B3 (fun _ => 0), .blk B2 66 4 (arB 4 m), arr16 B1 f]) e⟩) (by repeat (first | exact envNil | refine envCons rfl ?_)) (by repeat (first | exact envNil | refine envCons rfl ?_)) (by repeat (first | exact subPnil | refine subPcons 0 rfl ?_))
  · skip
    obtain rfl : c = 4 := by omega
    refine AW.exit ?_
    refine AQ.thenX ?_
    refine AQ.loopX ?_
    refine AQ.blockX rfl ?_
    refine AQ.thenN ?_
    refine AW.seq ?_
    refine AW.region ?_
    refine AO.op (O.loadK rfl rfl (by repeat (exact List.Mem.head _)) (by exact List.take_of_length_le (Nat.le_of_eq (arB_len _ _))) (by rfl)) rfl rfl rfl ?_
    (refine AO.store (i := 1) rfl rfl rfl rfl rfl rfl (by rfl) (by rfl) (by rfl) (by exact splice_arB rfl) (by (dsimp only [List.set, List.append, List.cons_append, List.nil_append, splice, ofConst, AV.cells, List.map, List.map_cons, List.map_nil, List.take, List.drop, Nat.zero_add, Nat.add_zero, Nat.reduceAdd, Nat.reduceMul, Nat.zero_mul, Value.cells, List.toList_toArray, zerosA, List.replicate, List.flatten, List.append_nil]; done)) ?_)
    refine AO.nil ?_
    refine AQ.thenN ?_
    refine AW.ret ?_
    refine AQ.retCell (ys := arB 16 (rU f m 4 0 0)) rfl rfl (by repeat (first | exact List.Mem.head _ | refine List.Mem.tail _ ?_)) (List.take_of_length_le (Nat.le_of_eq (arB_len _ _))) (arB_len _ _) ⟨_, List.nil_sublist _, .nil⟩ ⟨congrArg AV.agg (arB_congr fun q hq => by rw [← rmix_eq]; unfold rU; rw [if_neg (by omega), if_pos (by omega)]), rfl⟩
end Go.Proofs.Ytochjihddnkhcaa.By

namespace Go.Proofs.Ytochjihddnkhcaa.By
open Go.RowKit L A
set_option linter.unusedVariables false
set_option linter.unusedSimpArgs false
attribute [local irreducible] AW AQ AO
set_option maxRecDepth 20000 in
set_option maxHeartbeats 4000000 in
theorem renc_fn (key blk : List UInt8) : Sp Try.prog 22 [roB key, roB blk] [] (Is (.tup [roB (encL key blk), .val (.int .i64 (encE key blk))])) := by
  refine Sp.enter Try.func22 rfl _ Try.ntmps22 rfl (fun w0 R0 => ?_)
  refine AW.seq ?_
  refine AW.region ?_
  refine AO.op (O.assign rfl rfl) rfl rfl rfl ?_
  refine AO.op (O.assign rfl rfl) rfl rfl rfl ?_
  refine AO.nil ?_
  refine AQ.thenN ?_
  refine AW.seq ?_
  refine AW.seq ?_
  refine AW.region ?_
  refine AO.op (O.move rfl rfl) rfl rfl rfl ?_
  refine AO.op (O.lenR rfl rfl) rfl rfl rfl ?_
  refine AO.op (O.neq rfl rfl rfl (by rfl)) rfl rfl rfl ?_
  refine AO.op (O.move rfl rfl) rfl rfl rfl ?_
  refine AO.opG rfl rfl rfl (fun hp => O.move rfl rfl) ?_
  refine AO.opG rfl rfl rfl (fun hp => OpW.force 17 rfl (by exact hp) (O.lenR rfl rfl)) ?_
  refine AO.opG rfl rfl rfl (fun hp => OpW.force 18 rfl (by exact hp) (O.neq rfl rfl rfl (by rfl))) ?_
  refine AO.op (O.pickOr rfl rfl rfl rfl (fun h => by exact congrArg (fun b => !b) h)) rfl rfl rfl ?_
  refine AO.nil ?_
  refine AQ.thenN ?_
  refine AW.split rfl (fun h => ?_) (fun h => ?_) <;> (try simp only [decide_eq_true_eq, decide_eq_false_iff_not, beq_iff_eq, beq_eq_false_iff_ne, bne_iff_ne, bne_eq_false_iff_eq, Bool.not_eq_true', Bool.not_eq_false', Bool.not_eq_true, Bool.not_eq_false, ne_eq, Int.not_lt, Int.not_le, Bool.and_eq_true, Bool.or_eq_true, Bool.or_eq_false_iff, Bool.and_eq_false_imp, strOf_toList, Decidable.not_not] at h)
  · skip
    have e1 : encL key blk = [] := if_neg (by omega)
    have e2 : encE key blk = 1 := if_neg (by omega)
    rw [e1, e2]
    refine AW.seq ?_
    refine AW.region ?_
    refine AO.op (O.assign rfl rfl) rfl rfl rfl ?_
    refine AO.op (O.assign rfl rfl) rfl rfl rfl ?_
    refine AO.nil ?_
    refine AQ.thenN ?_
    refine AW.ret ?_
    refine AQ.thenR ?_
    refine FnQ.coe (AQ.ret2 rfl rfl rfl ⟨_, List.nil_sublist _, .nil⟩ ⟨rfl, rfl⟩) (Coe.tup (by (repeat (first | exact CoeL.nil | refine CoeL.cons Coe.rfl ?_ | refine CoeL.cons Coe.nil ?_)); done)) (⟨rfl, rfl⟩)
  · skip
    have hk : key.length = 16 := by omega
    have hb : blk.length = 16 := by omega
    rw [encL, encE, if_pos ⟨hk, hb⟩, if_pos ⟨hk, hb⟩]
    refine AW.g ?_
    refine G.re 0 (.ro false 16 (arB 16 (kf key))) (congrArg some (roB_kf hk)) ?_
    refine AW.u ?_
    refine AW.g ?_
    refine G.re 1 (.ro false 16 (arB 16 (kf blk))) (congrArg some (roB_kf hb)) ?_
    refine AW.u ?_
    obtain ⟨w, hwd⟩ : ∃ w, w = wS (kf key) := ⟨_, rfl⟩
    have hs0 : (arB 176 (wS (kf key))).take (16 * 1) = arB 16 (fun q => w (0 * 16 + q)) := by
      have := arB_dt (n := 176) (f := w) (j := 0) (k := 16) (by omega)
      rw [hwd] at this ⊢
      simpa using this
    have hseg : ∀ r, r < 11 → ((arB 176 w).drop (16 * r * 1)).take (16 * 1) = arB 16 fun q => w (r * 16 + q) := fun r hr => by
      rw [show 16 * r * 1 = r * 16 by omega]; exact arB_dt (by omega)
    refine AW.skip ?_
    refine AQ.thenN ?_
    refine AW.seq ?_
    refine AW.region ?_
    refine AO.op (O.call rfl Try.func39 rfl rfl rfl (rsubs_fn)) rfl rfl rfl ?_
    refine AO.opB (O.alloc rfl (by exact zeros_arB _) (by exact List.length_replicate)) rfl rfl rfl ?_
    intro B1
    (refine AO.store (i := 0) rfl rfl rfl rfl rfl rfl (by exact arB_one _ _) (by exact arB_len _ _) (by exact Nat.ble_eq_true_of_le (Nat.le_of_eq (arB_len _ _).symm)) (by exact splice_arB (arB_len _ _)) (by (dsimp only [List.set, List.append, List.cons_append, List.nil_append, splice, ofConst, AV.cells, List.map, List.map_cons, List.map_nil, List.take, List.drop, Nat.zero_add, Nat.add_zero, Nat.reduceAdd, Nat.reduceMul, Nat.zero_mul, Value.cells, List.toList_toArray, zerosA, List.replicate, List.flatten, List.append_nil]; done)) ?_)
    refine AO.nil ?_
    refine AQ.thenN ?_
    refine AW.seq ?_
    refine AW.region ?_
    refine AO.op (O.move rfl rfl) rfl rfl rfl ?_
    refine AO.op (O.loadK rfl rfl (by repeat (exact List.Mem.head _)) (by exact List.take_of_length_le (Nat.le_of_eq (arB_len _ _))) (by exact arB_len _ _)) rfl rfl rfl ?_
    refine AO.op (O.call rfl Try.func38 rfl rfl rfl (rsched_fn _)) rfl rfl rfl ?_
    refine AO.op (O.assign rfl rfl) rfl rfl rfl ?_
    refine AO.nil ?_
    refine AQ.thenN ?_
    refine AW.seq ?_
    refine AW.regionD 7 (by kernel_rfl) (by kernel_rfl) ?_
    simp only [List.take_succ_cons, List.take_zero, List.drop_succ_cons, List.drop_zero]
    refine FA.op (O.move rfl rfl) rfl rfl rfl rfl ?_
    refine FA.op (O.toArr rfl rfl (by omega) (by omega)) rfl rfl rfl rfl ?_
    refine FA.op (O.loadRK rfl rfl (by exact List.take_of_length_le (Nat.le_of_eq (arB_len _ _))) (by exact arB_len _ _)) rfl rfl rfl rfl ?_
    refine FA.op (O.move rfl rfl) rfl rfl rfl rfl ?_
    refine FA.op (O.sliceTo (k := 16) rfl rfl rfl (by rfl) (by omega) (by exact hs0)) rfl rfl rfl rfl ?_
    refine FA.op (O.call rfl Try.func42 rfl rfl rfl (rxor_fn _ _)) rfl rfl rfl rfl ?_
    (refine FA.opN (O.alloc rfl (by (dsimp only [List.set, List.append, List.cons_append, List.nil_append, splice, ofConst, AV.cells, List.map, List.map_cons, List.map_nil, List.take, List.drop, Nat.zero_add, Nat.add_zero, Nat.reduceAdd, Nat.reduceMul, Nat.zero_mul, Value.cells, List.toList_toArray, zerosA, List.replicate, List.flatten, List.append_nil]; done)) (by rfl)) rfl rfl rfl rfl ?_)
    refine FA.nil ?_
    simp only [chosen, List.nil_append, List.cons_append, List.append_nil]
    rintro _ _ ⟨B2, rfl, rfl⟩
    simp only [List.cons_append, List.nil_append]
    (refine AO.store (i := 0) rfl rfl rfl rfl rfl rfl (by exact arB_one _ _) (by exact arB_len _ _) (by rfl) (by exact splice_arB rfl) (by (dsimp only [List.set, List.append, List.cons_append, List.nil_append, splice, ofConst, AV.cells, List.map, List.map_cons, List.map_nil, List.take, List.drop, Nat.zero_add, Nat.add_zero, Nat.reduceAdd, Nat.reduceMul, Nat.zero_mul, Value.cells, List.toList_toArray, zerosA, List.replicate, List.flatten, List.append_nil]; done)) ?_)
    refine AO.nil ?_
    refine AQ.thenN ?_
    refine AW.seq ?_
    refine AW.seq ?_
    refine AW.region ?_
    refine AO.op (O.assign rfl rfl) rfl rfl rfl ?_
    refine AO.nil ?_
    refine AQ.thenN ?_
    refine AW.block ?_
    rw [← hwd]
    refine AW.loopK [(6, _), (7, _), (8, _)] (fun nn E H => ∃ (j : Nat), (j ≤ 10) ∧ nn = 10 - j ∧ E = [(9, .val (.int .i64 ((j + 1 : Nat) : Int)))] ∧ H = [arr16 B2 (encS w (kf blk) j), .blk B1 51 256 (arB 256 RB)]) _ (⟨0, by omega, rfl, rfl, rfl⟩) (by repeat (first | exact envNil | refine envCons rfl ?_)) (by repeat (first | exact envNil | refine envCons rfl ?_)) (by repeat (first | exact subPnil | refine subPcons 0 rfl ?_)) ?_
    rintro nn E H ⟨j, hj, rfl, rfl, rfl⟩
    dsimp only [List.cons_append, List.nil_append]
    refine AW.seq ?_
    refine AW.seq ?_
    refine AW.region ?_
    refine AO.op (O.move rfl rfl) rfl rfl rfl ?_
    refine AO.op (O.leq rfl rfl rfl (by rfl)) rfl rfl rfl ?_
    refine AO.nil ?_
    refine AQ.thenN ?_
    refine AW.split rfl (fun hj1 => ?_) (fun hj1 => ?_) <;> (try simp only [decide_eq_true_eq, decide_eq_false_iff_not, beq_iff_eq, beq_eq_false_iff_ne, bne_iff_ne, bne_eq_false_iff_eq, Bool.not_eq_true', Bool.not_eq_false', Bool.not_eq_true, Bool.not_eq_false, ne_eq, Int.not_lt, Int.not_le, Bool.and_eq_true, Bool.or_eq_true, Bool.or_eq_false_iff, Bool.and_eq_false_imp, strOf_toList, Decidable.not_not] at hj1)
    · skip
      obtain ⟨g, hg⟩ : ∃ g, g = encS w (kf blk) j := ⟨_, rfl⟩
      have hst : ∀ q, encS w (kf blk) (j + 1) q = (if j + 1 < 10 then mixF (shF sb 1 g) m2311 else shF sb 1 g) q ^^^ w ((j + 1) * 16 + q) := fun q => by rw [encS, hg]
      rw [← hg]
      refine AW.skip ?_
      refine AQ.thenN ?_
      refine AW.seq ?_
      refine AW.block ?_
      refine AW.seq ?_
      refine AW.region ?_
      (refine AO.opB (O.alloc rfl (by (dsimp only [List.set, List.append, List.cons_append, List.nil_append, splice, ofConst, AV.cells, List.map, List.map_cons, List.map_nil, List.take, List.drop, Nat.zero_add, Nat.add_zero, Nat.reduceAdd, Nat.reduceMul, Nat.zero_mul, Value.cells, List.toList_toArray, zerosA, List.replicate, List.flatten, List.append_nil]; done)) (by rfl)) rfl rfl rfl ?_)
      intro B3
      refine AO.nil ?_
      refine AQ.thenN ?_
      refine AW.seq ?_
      refine AW.seq ?_
      refine AW.region ?_
      refine AO.op (O.move rfl rfl) rfl rfl rfl ?_
      refine AO.nil ?_
      refine AQ.thenN ?_
      refine AW.block ?_
      have e0 : arr16 B3 (fun _ => 0) = arr16 B3 (fun q => if q < 4 * 0 + 0 then shF sb 1 g q else 0) := arr_eq1 fun q _ => (if_neg (by omega)).symm
      refine AW.loopK [(6, _), (7, _), (8, _), (9, _), (10, _)] (fun nn E H => ∃ (c : Nat), (c ≤ 4) ∧ nn = 4 - c ∧ E = [(35, .val (.int .i64 (c : Int)))] ∧ H = [arr16 B3 (fun q => if q < 4 * c + 0 then shF sb 1 g q else 0), arr16 B2 g, .blk B1 51 256 (arB 256 RB)]) _ (⟨0, by omega, rfl, rfl, congrArg (fun x => [x, arr16 B2 g, .blk B1 51 256 (arB 256 RB)]) e0⟩) (by repeat (first | exact envNil | refine envCons rfl ?_)) (by repeat (first | exact envNil | refine envCons rfl ?_)) (by repeat (first | exact subPnil | refine subPcons 0 rfl ?_)) ?_
      rintro nn E H ⟨c, hc, rfl, rfl, rfl⟩
      dsimp only [List.cons_append, List.nil_append]
      refine AW.seq ?_
      refine AW.region ?_
      refine AO.op (O.lss rfl rfl rfl (by rfl)) rfl rfl rfl ?_
      refine AO.nil ?_
      refine AQ.thenN ?_
      refine AW.seq ?_
      refine AW.split rfl (fun hc4 => ?_) (fun hc4 => ?_) <;> (try simp only [decide_eq_true_eq, decide_eq_false_iff_not, beq_iff_eq, beq_eq_false_iff_ne, bne_iff_ne, bne_eq_false_iff_eq, Bool.not_eq_true', Bool.not_eq_false', Bool.not_eq_true, Bool.not_eq_false, ne_eq, Int.not_lt, Int.not_le, Bool.and_eq_true, Bool.or_eq_true, Bool.or_eq_false_iff, Bool.and_eq_false_imp, strOf_toList, Decidable.not_not] at hc4)
      · skip
        refine AW.skip ?_
        refine AQ.thenN ?_
        refine AW.seq ?_
        refine AW.block ?_
        refine AW.seq ?_
        refine AW.region ?_
        refine AO.op (O.move rfl rfl) rfl rfl rfl ?_
        refine AO.op (O.assign rfl rfl) rfl rfl rfl ?_
        refine AO.nil ?_
        refine AQ.thenN ?_
        refine AW.seq ?_
        refine AW.region ?_
        refine AO.op (O.move rfl rfl) rfl rfl rfl ?_
        refine AO.nil ?_
        refine AQ.thenN ?_
        refine AW.block ?_
        refine AW.loopK [(6, _), (7, _), (8, _), (9, _), (10, _), (11, _), (35, _)] (fun nn E H => ∃ (r : Nat), (r ≤ 4) ∧ nn = 4 - r ∧ E = [(38, .val (.int .i64 (r : Int)))] ∧ H = [arr16 B3 (fun q => if q < 4 * c + r then shF sb 1 g q else 0), arr16 B2 g, .blk B1 51 256 (arB 256 RB)]) _ (⟨0, by omega, rfl, rfl, rfl⟩) (by repeat (first | exact envNil | refine envCons rfl ?_)) (by repeat (first | exact envNil | refine envCons rfl ?_)) (by repeat (first | exact subPnil | refine subPcons 0 rfl ?_)) ?_
        rintro nn E H ⟨r, hr, rfl, rfl, rfl⟩
        dsimp only [List.cons_append, List.nil_append]
        refine AW.seq ?_
        refine AW.region ?_
        refine AO.op (O.lss rfl rfl rfl (by rfl)) rfl rfl rfl ?_
        refine AO.nil ?_
        refine AQ.thenN ?_
        refine AW.seq ?_
        refine AW.split rfl (fun hr4 => ?_) (fun hr4 => ?_) <;> (try simp only [decide_eq_true_eq, decide_eq_false_iff_not, beq_iff_eq, beq_eq_false_iff_ne, bne_iff_ne, bne_eq_false_iff_eq, Bool.not_eq_true', Bool.not_eq_false', Bool.not_eq_true, Bool.not_eq_false, ne_eq, Int.not_lt, Int.not_le, Bool.and_eq_true, Bool.or_eq_true, Bool.or_eq_false_iff, Bool.and_eq_false_imp, strOf_toList, Decidable.not_not] at hr4)
        · skip
          have hr' : r < 4 := by omega
          have hix : (0 + (4 * (((c : Int) + (r : Int)) % 4) + (r : Int)).toNat * 1) = r + 4 * ((c + r) % 4) := by
            have hi : (4 * (((c : Int) + (r : Int)) % 4) + (r : Int)) = ((r + 4 * ((c + r) % 4) : Nat) : Int) := by push_cast; omega
            rw [hi, Int.toNat_natCast]; omega
          have hgb : (arB 16 g)[0 + (4 * (((c : Int) + (r : Int)) % 4) + (r : Int)).toNat * 1]? = some (by8 (g (r + 4 * ((c + r) % 4)))) := by rw [hix]; exact arB_get (by omega) rfl
          have hsh : shF sb 1 g (4 * c + r) = sb (g (r + 4 * ((c + r) % 4))) := by
            rw [shF, show (4 * c + r) % 4 = r by omega, show (4 * c + r) / 4 = c by omega, Nat.one_mul]
          refine AW.skip ?_
          refine AQ.thenN ?_
          refine AW.seq ?_
          refine AW.block ?_
          refine AW.seq ?_
          refine AW.region ?_
          refine AO.op (O.move rfl rfl) rfl rfl rfl ?_
          refine AO.op (O.assign rfl rfl) rfl rfl rfl ?_
          refine AO.nil ?_
          refine AQ.thenN ?_
          refine AW.region ?_
          refine AO.op (O.move rfl rfl) rfl rfl rfl ?_
          refine AO.op (O.mul rfl rfl rfl (by exact wI64 (by omega))) rfl rfl rfl ?_
          refine AO.op (O.move rfl rfl) rfl rfl rfl ?_
          refine AO.op (O.add rfl rfl rfl (by exact wI64 (by omega))) rfl rfl rfl ?_
          refine AO.op (O.move rfl rfl) rfl rfl rfl ?_
          refine AO.op (O.move rfl rfl) rfl rfl rfl ?_
          refine AO.op (O.add rfl rfl rfl (by exact wI64 (by omega))) rfl rfl rfl ?_
          refine AO.op (O.rem rfl rfl rfl (by omega) (tmodE (by omega))) rfl rfl rfl ?_
          refine AO.op (O.mul rfl rfl rfl (by exact wI64 (by omega))) rfl rfl rfl ?_
          refine AO.op (O.move rfl rfl) rfl rfl rfl ?_
          refine AO.op (O.add rfl rfl rfl (by exact wI64 (by omega))) rfl rfl rfl ?_
          refine AO.op (O.idxL rfl rfl rfl (by exact ⟨by omega, by omega⟩)) rfl rfl rfl ?_
          refine AO.op (O.load rfl rfl (by repeat (first | exact List.Mem.head _ | refine List.Mem.tail _ ?_)) (by exact hgb)) rfl rfl rfl ?_
          refine AO.op (O.idxL rfl rfl rfl (by exact u8ix _)) rfl rfl rfl ?_
          refine AO.op (O.load rfl rfl (by repeat (first | exact List.Mem.head _ | refine List.Mem.tail _ ?_)) (by exact box_at1 box_ref _)) rfl rfl rfl ?_
          refine AO.op (O.idxL rfl rfl rfl (by exact ⟨by omega, by omega⟩)) rfl rfl rfl ?_
          (refine AO.store (i := 0) rfl rfl rfl rfl rfl rfl (by rfl) (by rfl) (by exact Nat.ble_eq_true_of_le (by rw [arB_len]; omega)) (by exact arB_set (k := 4 * c + r) (by omega) _ (by omega)) (by (dsimp only [List.set, List.append, List.cons_append, List.nil_append, splice, ofConst, AV.cells, List.map, List.map_cons, List.map_nil, List.take, List.drop, Nat.zero_add, Nat.add_zero, Nat.reduceAdd, Nat.reduceMul, Nat.zero_mul, Value.cells, List.toList_toArray, zerosA, List.replicate, List.flatten, List.append_nil]; done)) ?_)
          refine AO.nil ?_
          refine AQ.blockN ?_
          refine AQ.thenN ?_
          refine AW.region ?_
          refine AO.op (O.add rfl rfl rfl (by exact wI64 (by omega))) rfl rfl rfl ?_
          refine AO.op (O.move rfl rfl) rfl rfl rfl ?_
          refine AO.nil ?_
          have e : arr16 B3 (fun q => if q = 4 * c + r then sb (g (r + 4 * ((c + r) % 4))) else if q < 4 * c + r then shF sb 1 g q else 0) = arr16 B3 (fun q => if q < 4 * c + (r + 1) then shF sb 1 g q else 0) := arr_eq1 fun q _ => by
            rw [← hsh]
            rcases Nat.lt_trichotomy q (4 * c + r) with h1 | h1 | h1
            · rw [if_neg (by omega), if_pos h1, if_pos (by omega)]
            · rw [if_pos h1, if_pos (by omega), h1]
            · rw [if_neg (by omega), if_neg (by omega), if_neg (by omega)]
          refine AQ.loopKN _ _ _ (by omega) (⟨r + 1, by omega, rfl, rfl, congrArg (fun x => [x, arr16 B2 g, .blk B1 51 256 (arB 256 RB)]) e⟩) (by repeat (first | exact envNil | refine envCons rfl ?_)) (by repeat (first | exact envNil | refine envCons rfl ?_)) (by repeat (first | exact subPnil | refine subPcons 0 rfl ?_))
        · skip
          obtain rfl : r = 4 := by omega
          refine AW.exit ?_
          refine AQ.thenX ?_
          refine AQ.loopX ?_
          refine AQ.blockX rfl ?_
          refine AQ.blockN ?_
          refine AQ.thenN ?_
          refine AW.region ?_
          refine AO.op (O.add rfl rfl rfl (by exact wI64 (by omega))) rfl rfl rfl ?_
          refine AO.op (O.move rfl rfl) rfl rfl rfl ?_
          refine AO.nil ?_
          refine AQ.loopKN _ _ _ (by omega) (⟨c + 1, by omega, rfl, rfl, rfl⟩) (by repeat (first | exact envNil | refine envCons rfl ?_)) (by repeat (first | exact envNil | refine envCons rfl ?_)) (by repeat (first | exact subPnil | refine subPcons 0 rfl ?_))
      · skip
        obtain rfl : c = 4 := by omega
        have e : arr16 B3 (fun q => if q < 4 * 4 + 0 then shF sb 1 g q else 0) = arr16 B3 (shF sb 1 g) := arr_eq1 fun q hq => if_pos hq
        rw [e]
        refine AW.exit ?_
        refine AQ.thenX ?_
        refine AQ.loopX ?_
        refine AQ.blockX rfl ?_
        refine AQ.thenN ?_
        refine AW.seq ?_
        refine AW.seq ?_
        refine AW.region ?_
        refine AO.op (O.move rfl rfl) rfl rfl rfl ?_
        refine AO.op (O.lss rfl rfl rfl (by rfl)) rfl rfl rfl ?_
        refine AO.nil ?_
        refine AQ.thenN ?_
        refine AW.split rfl (fun h10 => ?_) (fun h10 => ?_) <;> (try simp only [decide_eq_true_eq, decide_eq_false_iff_not, beq_iff_eq, beq_eq_false_iff_ne, bne_iff_ne, bne_eq_false_iff_eq, Bool.not_eq_true', Bool.not_eq_false', Bool.not_eq_true, Bool.not_eq_false, ne_eq, Int.not_lt, Int.not_le, Bool.and_eq_true, Bool.or_eq_true, Bool.or_eq_false_iff, Bool.and_eq_false_imp, strOf_toList, Decidable.not_not] at h10)
        · skip
          refine AW.region ?_
          refine AO.op (O.loadK rfl rfl (by repeat (exact List.Mem.head _)) (by exact List.take_of_length_le (Nat.le_of_eq (arB_len _ _))) (by exact arB_len _ _)) rfl rfl rfl ?_
          refine AO.op (O.build rfl rfl rfl (by rfl)) rfl rfl rfl ?_
          refine AO.op (O.call rfl Try.func43 rfl rfl rfl (rmix_fn _ m2311)) rfl rfl rfl ?_
          (refine AO.store (i := 0) rfl rfl rfl rfl rfl rfl (by exact arB_one _ _) (by exact arB_len _ _) (by exact Nat.ble_eq_true_of_le (Nat.le_of_eq (arB_len _ _).symm)) (by exact splice_arB (arB_len _ _)) (by (dsimp only [List.set, List.append, List.cons_append, List.nil_append, splice, ofConst, AV.cells, List.map, List.map_cons, List.map_nil, List.take, List.drop, Nat.zero_add, Nat.add_zero, Nat.reduceAdd, Nat.reduceMul, Nat.zero_mul, Value.cells, List.toList_toArray, zerosA, List.replicate, List.flatten, List.append_nil]; done)) ?_)
          refine AO.nil ?_
          refine AQ.thenN ?_
          refine AW.regionD 9 (by kernel_rfl) (by kernel_rfl) ?_
          simp only [List.take_succ_cons, List.take_zero, List.drop_succ_cons, List.drop_zero]
          refine FA.op (O.loadK rfl rfl (by repeat (exact List.Mem.head _)) (by exact List.take_of_length_le (Nat.le_of_eq (arB_len _ _))) (by exact arB_len _ _)) rfl rfl rfl rfl ?_
          refine FA.op (O.move rfl rfl) rfl rfl rfl rfl ?_
          refine FA.op (O.move rfl rfl) rfl rfl rfl rfl ?_
          refine FA.op (O.mul rfl rfl rfl (by exact wI64 (by omega))) rfl rfl rfl rfl ?_
          refine FA.op (O.move rfl rfl) rfl rfl rfl rfl ?_
          refine FA.op (O.mul rfl rfl rfl (by exact wI64 (by omega))) rfl rfl rfl rfl ?_
          refine FA.op (O.add rfl rfl rfl (by exact wI64 (by omega))) rfl rfl rfl rfl ?_
          refine FA.op (O.sliceLHm (m := 16) rfl rfl rfl rfl (l := 16 * (j + 1)) (h := 16 * (j + 1) + 16) (by omega) (by omega) (by omega) (by omega) (by omega) (by exact hseg (j + 1) (by omega))) rfl rfl rfl rfl ?_
          refine FA.op (O.call rfl Try.func42 rfl rfl rfl (rxor_fn _ _)) rfl rfl rfl rfl ?_
          refine FA.nil ?_
          simp only [chosen, List.nil_append, List.cons_append, List.append_nil]
          (refine AO.store (i := 1) rfl rfl rfl rfl rfl rfl (by exact arB_one _ _) (by exact arB_len _ _) (by exact Nat.ble_eq_true_of_le (Nat.le_of_eq (arB_len _ _).symm)) (by exact splice_arB (arB_len _ _)) (by (dsimp only [List.set, List.append, List.cons_append, List.nil_append, splice, ofConst, AV.cells, List.map, List.map_cons, List.map_nil, List.take, List.drop, Nat.zero_add, Nat.add_zero, Nat.reduceAdd, Nat.reduceMul, Nat.zero_mul, Value.cells, List.toList_toArray, zerosA, List.replicate, List.flatten, List.append_nil]; done)) ?_)
          refine AO.nil ?_
          refine AQ.blockN ?_
          refine AQ.thenN ?_
          refine AW.region ?_
          refine AO.op (O.move rfl rfl) rfl rfl rfl ?_
          refine AO.op (O.add rfl rfl rfl (by exact wI64 (by omega))) rfl rfl rfl ?_
          refine AO.op (O.assign rfl rfl) rfl rfl rfl ?_
          refine AO.nil ?_
          have e2 : arr16 B2 (fun q => mixF (shF sb 1 g) m2311 q ^^^ w ((j + 1) * 16 + q)) = arr16 B2 (encS w (kf blk) (j + 1)) := arr_eq1 fun q _ => by rw [hst, if_pos (by omega)]
          refine AQ.loopKN _ _ _ (by omega) (⟨j + 1, by omega, rfl, rfl, congrArg (fun x => [x, .blk B1 51 256 (arB 256 RB)]) e2⟩) (by repeat (first | exact envNil | refine envCons rfl ?_)) (by repeat (first | exact envNil | refine envCons rfl ?_)) (by repeat (first | exact subPnil | refine subPcons 1 rfl ?_))
        · skip
          refine AW.skip ?_
          refine AQ.thenN ?_
          refine AW.regionD 9 (by kernel_rfl) (by kernel_rfl) ?_
          simp only [List.take_succ_cons, List.take_zero, List.drop_succ_cons, List.drop_zero]
          refine FA.op (O.loadK rfl rfl (by repeat (exact List.Mem.head _)) (by exact List.take_of_length_le (Nat.le_of_eq (arB_len _ _))) (by exact arB_len _ _)) rfl rfl rfl rfl ?_
          refine FA.op (O.move rfl rfl) rfl rfl rfl rfl ?_
          refine FA.op (O.move rfl rfl) rfl rfl rfl rfl ?_
          refine FA.op (O.mul rfl rfl rfl (by exact wI64 (by omega))) rfl rfl rfl rfl ?_
          refine FA.op (O.move rfl rfl) rfl rfl rfl rfl ?_
          refine FA.op (O.mul rfl rfl rfl (by exact wI64 (by omega))) rfl rfl rfl rfl ?_
          refine FA.op (O.add rfl rfl rfl (by exact wI64 (by omega))) rfl rfl rfl rfl ?_
          refine FA.op (O.sliceLHm (m := 16) rfl rfl rfl rfl (l := 16 * (j + 1)) (h := 16 * (j + 1) + 16) (by omega) (by omega) (by omega) (by omega) (by omega) (by exact hseg (j + 1) (by omega))) rfl rfl rfl rfl ?_
          refine FA.op (O.call rfl Try.func42 rfl rfl rfl (rxor_fn _ _)) rfl rfl rfl rfl ?_
          refine FA.nil ?_
          simp only [chosen, List.nil_append, List.cons_append, List.append_nil]
          (refine AO.store (i := 1) rfl rfl rfl rfl rfl rfl (by exact arB_one _ _) (by exact arB_len _ _) (by exact Nat.ble_eq_true_of_le (Nat.le_of_eq (arB_len _ _).symm)) (by exact splice_arB (arB_len _ _)) (by (dsimp only [List.set, List.append, List.cons_append, List.nil_append, splice, ofConst, AV.cells, List.map, List.map_cons, List.map_nil, List.take, List.drop, Nat.zero_add, Nat.add_zero, Nat.reduceAdd, Nat.reduceMul, Nat.zero_mul, Value.cells, List.toList_toArray, zerosA, List.replicate, List.flatten, List.append_nil]; done)) ?_)
          refine AO.nil ?_
          refine AQ.blockN ?_
          refine AQ.thenN ?_
          refine AW.region ?_
          refine AO.op (O.move rfl rfl) rfl rfl rfl ?_
          refine AO.op (O.add rfl rfl rfl (by exact wI64 (by omega))) rfl rfl rfl ?_
          refine AO.op (O.assign rfl rfl) rfl rfl rfl ?_
          refine AO.nil ?_
          have e2 : arr16 B2 (fun q => shF sb 1 g q ^^^ w ((j + 1) * 16 + q)) = arr16 B2 (encS w (kf blk) (j + 1)) := arr_eq1 fun q _ => by rw [hst, if_neg (by omega)]
          refine AQ.loopKN _ _ _ (by omega) (⟨j + 1, by omega, rfl, rfl, congrArg (fun x => [x, .blk B1 51 256 (arB 256 RB)]) e2⟩) (by repeat (first | exact envNil | refine envCons rfl ?_)) (by repeat (first | exact envNil | refine envCons rfl ?_)) (by repeat (first | exact subPnil | refine subPcons 1 rfl ?_))
    · skip
      obtain rfl : j = 10 := by omega
      have ef : AV.ro false (16 - 0) (List.take ((16 - 0) * 1) (arB 16 (encS w (kf blk) 10))) = roB (fnB 16 (enc w (kf blk))) := by
        show AV.ro false 16 (List.take 16 (arB 16 (encS w (kf blk) 10))) = _
        rw [List.take_of_length_le (Nat.le_of_eq (arB_len _ _))]
        exact (roB_fnB 16 _).symm
      refine AW.exit ?_
      refine AQ.thenX ?_
      refine AQ.loopX ?_
      refine AQ.blockX rfl ?_
      refine AQ.thenN ?_
      refine AW.seq ?_
      refine AW.region ?_
      refine AO.op (O.sliceArrK (p := 0) rfl rfl rfl rfl (by rfl) (by rfl) ⟨by omega, by omega⟩ (by omega)) rfl rfl rfl ?_
      refine AO.opRow (O.appendNil rfl (by rfl) (by rfl) rfl rfl (by exact SrcA.blk TyD.ax (by repeat (exact List.Mem.head _)) (by (dsimp only [List.set, List.append, List.cons_append, List.nil_append, splice, ofConst, AV.cells, List.map, List.map_cons, List.map_nil, List.take, List.drop, Nat.zero_add, Nat.add_zero, Nat.reduceAdd, Nat.reduceMul, Nat.zero_mul, Value.cells, List.toList_toArray, zerosA, List.replicate, List.flatten, List.append_nil]; done)) (by rfl)) (by rfl) (by (unfold maxLen; omega)) (by omega)) rfl rfl rfl ?_
      intro V4 hV4
      refine AO.op (O.assign rfl rfl) rfl rfl rfl ?_
      refine AO.op (O.assign rfl rfl) rfl rfl rfl ?_
      refine AO.nil ?_
      refine AQ.thenN ?_
      refine AW.ret ?_
      refine AQ.g ?_
      refine G.freezeRow 0 rfl [4] (by repeat (first | exact frNil | refine frCons rfl ?_)) ?_
      refine AQ.u ?_
      try dsimp only [List.map, List.eraseIdx, List.cons_append, List.nil_append]
      refine AQ.g ?_
      refine G.re 4 (roB (fnB 16 (enc w (kf blk)))) (congrArg some ef) ?_
      refine AQ.u ?_
      refine FnQ.coe (AQ.ret2 rfl rfl rfl ⟨_, List.nil_sublist _, .nil⟩ ⟨rfl, rfl⟩) (Coe.tup (by (repeat (first | exact CoeL.nil | refine CoeL.cons Coe.rfl ?_)); done)) (⟨rfl, rfl⟩)
def srcI (q : Nat) : Nat := 4 * ((q / 4 + 3 * (q % 4)) % 4) + q % 4
def bF (y : Nat → UInt8) (n q : Nat) : UInt8 := if srcI q < n then shF iv 3 y q else 0
def bk (i q : Nat) : UInt8 := if (iv (UInt8.ofNat q)).toNat < i then iv (UInt8.ofNat q) else 0
def VB (q : Nat) : UInt8 := iv (UInt8.ofNat q)
end Go.Proofs.Ytochjihddnkhcaa.By

namespace Go.Proofs.Ytochjihddnkhcaa.A
open Go.RowKit L
set_option linter.unusedVariables false
set_option linter.unusedSimpArgs false
section
variable {P : Program}

def pval : AV → Option Value
  | .val v => some v
  | .agg xs => (valsOf xs).map fun vs => .agg vs.toArray
  | _ => none
def pvals : List AV → Option (List Value)
  | [] => some []
  | x :: r => match pval x, pvals r with | some v, some vs => some (v :: vs) | _, _ => none
/-- A new row that the caller only reads. -/
theorem Sp.frozen {f : FuncId} {args : List AV} {T : TypeId} {sz n : Nat} {ys : List AV} (h : Sp P f args [] (NewRow T sz n ys)) : Sp P f args [] (Is (.ro false n ys)) := fun W R us h1 h2 h3 h4 => by
  refine (h W R us h1 h2 h3 h4).mono ?_
  rintro e W' ⟨u, r, H', R', rfl, ⟨v, rfl, hv1, rfl⟩, hs, hv⟩
  have hok := hs.ok _ (List.mem_cons_self ..)
  have hown := hs.own _ (List.mem_cons_self ..)
  have hu := hv.val_inv
  subst hu
  refine ⟨u, .ro false n ys, [], fun b => R' b ∨ (HE.row u T sz n ys).foot b, rfl, ⟨rfl, rfl⟩, ⟨hs.mods, ?_, fun b hb => .inl (hs.rsub b hb), ?_, fun _ h => (by cases h), fun _ h => (by cases h), .nil⟩, row_ro hok⟩
  · rintro b (hb | hb)
    · exact hs.rlt b hb
    · exact HE.ok_lt hok hb
  · rintro b (hb | hb)
    · exact hs.rnew b hb
    · exact .inr (hown b hb).1
end
end Go.Proofs.Ytochjihddnkhcaa.A

namespace Go.Proofs.Ytochjihddnkhcaa.By
open Go.RowKit L A
set_option linter.unusedVariables false
set_option linter.unusedSimpArgs false
attribute [local irreducible] AW AQ AO
theorem u64_nn (x : Int) : 0 ≤ IntKind.u64.wrap x := by rw [IntKind.wrap_u64]; exact Int.emod_nonneg _ (by decide)
def someF (k : Int) (i : Nat) : UInt8 := u8 (((u8 ((IntKind.u64.wrap k).fdiv (2 ^ min (IntKind.u64.wrap (8 * IntKind.u64.wrap ((i : Int).tmod 8))).toNat IntKind.u64.bits))).toNat : Int) + ((u8 (IntKind.i64.wrap ((i : Int).tdiv 8))).toNat : Int))
def seedF (k : Int) (i : Nat) : UInt8 := u8 ((IntKind.u64.wrap k).fdiv (2 ^ min (IntKind.u64.wrap (8 * IntKind.u64.wrap ((i : Int).tmod 8))).toNat IntKind.u64.bits)) ^^^ u8 (IntKind.i64.wrap (37 * IntKind.i64.wrap ((i : Int).tdiv 8)))
def someL (k : Int) (n : Nat) : List UInt8 := fnB n (someF k)
def seedL (k : Int) : List UInt8 := fnB 32 (seedF k)
theorem someL_len (k : Int) (n : Nat) : (someL k n).length = n := fnB_len _ _
set_option maxHeartbeats 2000000 in
theorem some_row (k : Int) (n : Nat) (hn : n ≤ 1000000) : Sp Try.prog 14 [.val (.int .i64 k), .val (.int .i64 (n : Int))] [] (NewRow 5 1 n (arB n (someF k))) := by
  refine Sp.enter Try.func14 rfl _ Try.ntmps14 rfl (fun w0 R0 => ?_)
  refine AW.seq ?_
  refine AW.region ?_
  refine AO.op (O.assign rfl rfl) rfl rfl rfl ?_
  refine AO.nil ?_
  refine AQ.thenN ?_
  refine AW.seq ?_
  refine AW.region ?_
  refine AO.op (O.assign rfl rfl) rfl rfl rfl ?_
  refine AO.nil ?_
  refine AQ.thenN ?_
  refine AW.seq ?_
  refine AW.seq ?_
  refine AW.region ?_
  refine AO.op (O.move rfl rfl) rfl rfl rfl ?_
  refine AO.op (O.move rfl rfl) rfl rfl rfl ?_
  refine AO.nil ?_
  refine AQ.thenN ?_
  refine AW.block ?_
  refine AW.g ?_
  refine G.nilRow 5 1 ?_
  refine AW.u ?_
  refine AW.loopK [(0, _), (7, _)] (fun nn E H => ∃ (i : Nat) (V : Value), (i ≤ n) ∧ (V.oneCell' = true) ∧ nn = n - i ∧ E = [(5, .val V), (8, .val (.int .i64 (i : Int)))] ∧ H = [.row V 5 1 i (arB i (someF k))]) _ (⟨0, _, by omega, rfl, rfl, rfl, rfl⟩) (by repeat (first | exact envNil | refine envCons rfl ?_)) (by repeat (first | exact envNil | refine envCons rfl ?_)) (by repeat (first | exact subPnil | refine subPcons 0 rfl ?_)) ?_
  rintro nn E H ⟨i, V, h1, hV, rfl, rfl, rfl⟩
  dsimp only [List.cons_append, List.nil_append]
  have hsh := u64_nn (8 * IntKind.u64.wrap ((i : Int).tmod 8))
  refine AW.seq ?_
  refine AW.region ?_
  refine AO.op (O.lss rfl rfl rfl (by rfl)) rfl rfl rfl ?_
  refine AO.nil ?_
  refine AQ.thenN ?_
  refine AW.seq ?_
  refine AW.split rfl (fun h => ?_) (fun h => ?_) <;> (try simp only [decide_eq_true_eq, decide_eq_false_iff_not, beq_iff_eq, beq_eq_false_iff_ne, bne_iff_ne, bne_eq_false_iff_eq, Bool.not_eq_true', Bool.not_eq_false', Bool.not_eq_true, Bool.not_eq_false, ne_eq, Int.not_lt, Int.not_le, Bool.and_eq_true, Bool.or_eq_true, Bool.or_eq_false_iff, Bool.and_eq_false_imp, strOf_toList, Decidable.not_not] at h)
  · skip
    refine AW.skip ?_
    refine AQ.thenN ?_
    refine AW.seq ?_
    refine AW.block ?_
    refine AW.seq ?_
    refine AW.region ?_
    refine AO.op (O.move rfl rfl) rfl rfl rfl ?_
    refine AO.op (O.assign rfl rfl) rfl rfl rfl ?_
    refine AO.nil ?_
    refine AQ.thenN ?_
    refine AW.region ?_
    refine AO.op (O.move rfl rfl) rfl rfl rfl ?_
    refine AO.op (O.move rfl rfl) rfl rfl rfl ?_
    refine AO.op (O.conv rfl rfl (by rfl)) rfl rfl rfl ?_
    refine AO.op (O.move rfl rfl) rfl rfl rfl ?_
    refine AO.op (O.rem rfl rfl rfl (by omega) rfl) rfl rfl rfl ?_
    refine AO.op (O.conv rfl rfl (by rfl)) rfl rfl rfl ?_
    refine AO.op (O.mul rfl rfl rfl (by rfl)) rfl rfl rfl ?_
    refine AO.op (O.shr rfl rfl rfl (by omega) rfl) rfl rfl rfl ?_
    refine AO.op (O.conv rfl rfl wU8any) rfl rfl rfl ?_
    refine AO.op (O.move rfl rfl) rfl rfl rfl ?_
    refine AO.op (O.quo rfl rfl rfl (by omega) (by rfl)) rfl rfl rfl ?_
    refine AO.op (O.conv rfl rfl wU8any) rfl rfl rfl ?_
    refine AO.op (O.add rfl rfl rfl (by exact wU8any)) rfl rfl rfl ?_
    refine AO.opB (O.buildSlice rfl rfl rfl (by rfl) (by rfl) (by rfl) (by rfl)) rfl rfl rfl ?_
    intro B1
    refine AO.g ?_
    (refine G.freezeSl 0 24 rfl rfl ⟨Nat.le_refl _, by unfold maxLen; omega⟩ ?_)
    refine G.unfull 24 rfl ?_
    refine AO.u ?_
    dsimp only [List.eraseIdx]
    (refine AO.append' (i := 0) rfl rfl rfl rfl (by rfl) (by rfl) rfl rfl rfl (by exact SrcA.ro TyD.ax (by rfl) (Nat.le_of_ble_eq_true rfl)) (by rfl) (by (unfold maxLen; omega)) (by omega) (by (dsimp only [List.set, List.append, List.cons_append, List.nil_append, roB_cells, roI_cells, roO_cells, splice, ofConst, AV.cells, List.map, List.map_cons, List.map_nil, List.take, List.drop, Nat.zero_add, Nat.add_zero, Nat.reduceAdd, Nat.reduceMul, Nat.zero_mul, Value.cells, List.toList_toArray, zerosA, List.replicate, List.flatten, List.append_nil]; done)) (fun _ => by (dsimp only [List.set]; done)) ?_)
    intro V2 hV2
    refine AO.op (O.assign rfl rfl) rfl rfl rfl ?_
    refine AO.nil ?_
    refine AQ.blockN ?_
    refine AQ.thenN ?_
    refine AW.region ?_
    refine AO.op (O.add rfl rfl rfl (by exact wI64 (by omega))) rfl rfl rfl ?_
    refine AO.op (O.move rfl rfl) rfl rfl rfl ?_
    refine AO.nil ?_
    refine AQ.loopKN _ _ _ (by omega) (⟨i + 1, V2, by omega, hV2, rfl, rfl, congrArg (fun xs => [HE.row V2 5 1 (i + 1) xs]) (arB_snoc (f := someF k) (n := i) rfl)⟩) (by repeat (first | exact envNil | refine envCons rfl ?_)) (by repeat (first | exact envNil | refine envCons rfl ?_)) (by repeat (first | exact subPnil | refine subPcons 0 rfl ?_))
  · skip
    obtain rfl : i = n := by omega
    refine AW.exit ?_
    refine AQ.thenX ?_
    refine AQ.loopX ?_
    refine AQ.blockX rfl ?_
    refine AQ.thenN ?_
    refine AW.seq ?_
    refine AW.region ?_
    refine AO.op (O.move rfl rfl) rfl rfl rfl ?_
    refine AO.op (O.assign rfl rfl) rfl rfl rfl ?_
    refine AO.nil ?_
    refine AQ.thenN ?_
    refine AW.ret ?_
    refine AQ.ret1 rfl rfl ⟨_, by repeat (first | exact List.Sublist.slnil | refine List.Sublist.cons_cons _ ?_), List.Perm.refl _⟩ (⟨V, rfl, hV, rfl⟩)
theorem some_fn (k z : Int) (hz : 0 ≤ z ∧ z ≤ 1000000) : Sp Try.prog 14 [.val (.int .i64 k), .val (.int .i64 z)] [] (Is (roB (someL k z.toNat))) := by
  have h := Sp.frozen (some_row k z.toNat (by omega))
  rw [show ((z.toNat : Nat) : Int) = z by omega] at h
  rw [someL, roB_fnB]
  exact h
theorem short06_fn (b : List UInt8) : Sp Try.prog 21 [roB b] [] (Is (.val (.bool (decide ((b.length : Int) ≤ 600))))) := by
  refine Sp.enter Try.func21 rfl _ Try.ntmps21 rfl (fun w0 R0 => ?_)
  refine AW.seq ?_
  refine AW.region ?_
  refine AO.op (O.assign rfl rfl) rfl rfl rfl ?_
  refine AO.nil ?_
  refine AQ.thenN ?_
  refine AW.seq ?_
  refine AW.region ?_
  refine AO.op (O.move rfl rfl) rfl rfl rfl ?_
  refine AO.op (O.lenR rfl rfl) rfl rfl rfl ?_
  refine AO.op (O.leq rfl rfl rfl (by rfl)) rfl rfl rfl ?_
  refine AO.op (O.assign rfl rfl) rfl rfl rfl ?_
  refine AO.nil ?_
  refine AQ.thenN ?_
  refine AW.ret ?_
  refine AQ.ret1 rfl rfl ⟨_, List.nil_sublist _, .nil⟩ (⟨rfl, rfl⟩)
end Go.Proofs.Ytochjihddnkhcaa.By

namespace Go.Proofs.Ytochjihddnkhcaa.By
open Go.RowKit L A
set_option linter.unusedVariables false
set_option linter.unusedSimpArgs false
set_option maxRecDepth 20000
def DX (b : UInt8) : Prop := ∀ a, dbl (a ^^^ b) = dbl a ^^^ dbl b
theorem DX.xor {b c : UInt8} (h : DX b) (k : DX c) : DX (b ^^^ c) := fun a => by
  rw [← UInt8.xor_assoc, k, h, k, UInt8.xor_assoc]
theorem DX.zero : DX 0 := fun a => by rw [UInt8.xor_zero, show dbl 0 = 0 from rfl, UInt8.xor_zero]
def pickB (b : UInt8) (i : Nat) : UInt8 := if b &&& UInt8.ofNat (2 ^ i) = 0 then 0 else UInt8.ofNat (2 ^ i)
theorem shF_congr {S : UInt8 → UInt8} {d : Nat} {f g : Nat → UInt8} (h : ∀ q, q < 16 → f q = g q) : ∀ q, q < 16 → shF S d f q = shF S d g q := fun q hq => by
  unfold shF
  rw [h _ (by omega)]
theorem mixK_congr {f g m : Nat → UInt8} {i : Nat} (hi : i < 16) (h : ∀ q, q < 16 → f q = g q) : ∀ k, mixK f m i k = mixK g m i k
  | 0 => rfl
  | k + 1 => by rw [mixK, mixK, mixK_congr hi h k, h _ (by omega)]
theorem mixF_congr {f g m : Nat → UInt8} (h : ∀ q, q < 16 → f q = g q) : ∀ q, q < 16 → mixF f m q = mixF g m q := fun q hq => mixK_congr hq h 4
/-- What the byte s steps further gives to a byte that is mixed twice. -/
def TT (m n : Nat → UInt8) (s : Nat) (a : UInt8) : UInt8 := ((prod (prod a (m (s % 4))) (n 0) ^^^ prod (prod a (m ((s + 3) % 4))) (n 1)) ^^^ prod (prod a (m ((s + 2) % 4))) (n 2)) ^^^ prod (prod a (m ((s + 1) % 4))) (n 3)
theorem encS_zero (w f : Nat → UInt8) (q : Nat) : encS w f 0 q = f q ^^^ w (0 * 16 + q) := rfl
theorem encS_succ (w f : Nat → UInt8) (j q : Nat) : encS w f (j + 1) q = (if j + 1 < 10 then mixF (shF sb 1 (encS w f j)) m2311 else shF sb 1 (encS w f j)) q ^^^ w ((j + 1) * 16 + q) := rfl
theorem encS_congr {w f g : Nat → UInt8} (h : ∀ q, q < 16 → f q = g q) : ∀ j q, q < 16 → encS w f j q = encS w g j q
  | 0, q, hq => by rw [encS_zero, encS_zero, h q hq]
  | j + 1, q, hq => by
    rw [encS_succ, encS_succ]
    by_cases h9 : j + 1 < 10
    · rw [if_pos h9, if_pos h9]
      show mixF _ _ q ^^^ _ = mixF _ _ q ^^^ _
      rw [mixF_congr (shF_congr (encS_congr h j)) q hq]
    · rw [if_neg h9, if_neg h9]
      show shF _ _ _ q ^^^ _ = shF _ _ _ q ^^^ _
      rw [shF_congr (encS_congr h j) q hq]
theorem enc_congr {w f g : Nat → UInt8} (h : ∀ q, q < 16 → f q = g q) : ∀ q, q < 16 → enc w f q = enc w g q := encS_congr h 10
theorem kf_fnB {n : Nat} {f : Nat → UInt8} {q : Nat} (hq : q < n) : kf (fnB n f) q = f q := by simp [kf, fnB, hq]
/-! Ciphers told by their states. -/
def wStep (WL : List UInt8) (q : Nat) : UInt8 := (if q % 16 < 4 then sb (WL.getD (q - q % 16 - 4 + (q % 16 + 1) % 4) 0) ^^^ (if q % 16 = 0 then rcF (q / 16 - 1) else 0) else WL.getD (q - 4) 0) ^^^ WL.getD (q - 16) 0
theorem wS_lit {key : Nat → UInt8} {WL : List UInt8} (h0 : ∀ q, q < 16 → key q = WL.getD q 0) (h : ∀ q, q < 176 → 16 ≤ q → WL.getD q 0 = wStep WL q) : ∀ q, q < 176 → wS key q = WL.getD q 0 := fun q => by
  induction q using Nat.strongRecOn with
  | ind q ih =>
    intro hq
    by_cases h16 : q < 16
    · rw [wS_key h16, h0 q h16]
    · rw [h q hq (by omega), wS_ge h16, wStep, ih (q - 16) (by omega) (by omega)]
      by_cases h4 : q % 16 < 4
      · rw [if_pos h4, if_pos h4, ih (q - q % 16 - 4 + (q % 16 + 1) % 4) (by omega) (by omega)]
      · rw [if_neg h4, if_neg h4, ih (q - 4) (by omega) (by omega)]
def eStep (WL : List UInt8) (g : List UInt8) (j q : Nat) : UInt8 := (if j + 1 < 10 then mixF (shF sb 1 (kf g)) m2311 else shF sb 1 (kf g)) q ^^^ WL.getD ((j + 1) * 16 + q) 0
theorem enc_lit {w f : Nat → UInt8} {WL : List UInt8} {ST : List (List UInt8)} (hw : ∀ q, q < 176 → w q = WL.getD q 0) (h0 : ∀ q, q < 16 → f q ^^^ WL.getD q 0 = kf (ST.getD 0 []) q) (h : ∀ j, j < 10 → ∀ q, q < 16 → eStep WL (ST.getD j []) j q = kf (ST.getD (j + 1) []) q) :
    ∀ j, j ≤ 10 → ∀ q, q < 16 → encS w f j q = kf (ST.getD j []) q
  | 0, _, q, hq => by rw [encS_zero, ← h0 q hq, hw _ (by omega)]; congr 2; omega
  | j + 1, hj, q, hq => by
    have ih := enc_lit hw h0 h j (by omega)
    rw [← h j (by omega) q hq, encS_succ, eStep, hw _ (by omega)]
    by_cases h9 : j + 1 < 10
    · rw [if_pos h9, if_pos h9]
      show mixF _ _ q ^^^ _ = mixF _ _ q ^^^ _
      rw [mixF_congr (shF_congr ih) q hq]
    · rw [if_neg h9, if_neg h9]
      show shF _ _ _ q ^^^ _ = shF _ _ _ q ^^^ _
      rw [shF_congr ih q hq]
def awW : List UInt8 := [0, 1, 2, 3, 4, 5, 6, 7, 8, 9, 10, 11, 12, 13, 14, 15, 214, 170, 116, 253, 210, 175, 114, 250, 218, 166, 120, 241, 214, 171, 118, 254, 182, 146, 207, 11, 100, 61, 189, 241, 190, 155, 197, 0, 104, 48, 179, 254, 182, 255, 116, 78, 210, 194, 201, 191, 108, 89, 12, 191, 4, 105, 191, 65, 71, 247, 247, 188, 149, 53, 62, 3, 249, 108, 50, 188, 253, 5, 141, 253, 60, 170, 163, 232, 169, 159, 157, 235, 80, 243, 175, 87, 173, 246, 34, 170, 94, 57, 15, 125, 247, 166, 146, 150, 167, 85, 61, 193, 10, 163, 31, 107, 20, 249, 112, 26, 227, 95, 226, 140, 68, 10, 223, 77, 78, 169, 192, 38, 71, 67, 135, 53, 164, 28, 101, 185, 224, 22, 186, 244, 174, 191, 122, 210, 84, 153, 50, 209, 240, 133, 87, 104, 16, 147, 237, 156, 190, 44, 151, 78, 19, 17, 29, 127, 227, 148, 74, 23, 243, 7, 167, 139, 77, 43, 48, 197]
def awS : List (List UInt8) := [[0, 16, 32, 48, 64, 80, 96, 112, 128, 144, 160, 176, 192, 208, 224, 240], [137, 216, 16, 232, 133, 90, 206, 104, 45, 24, 67, 216, 203, 18, 143, 228], [73, 21, 89, 143, 85, 229, 215, 160, 218, 202, 148, 250, 31, 10, 99, 247], [250, 99, 106, 40, 37, 179, 57, 201, 64, 102, 138, 49, 87, 36, 77, 23], [36, 114, 64, 35, 105, 102, 179, 250, 110, 210, 117, 50, 136, 66, 91, 108], [200, 22, 119, 188, 155, 122, 201, 59, 37, 2, 121, 146, 176, 38, 25, 150], [198, 47, 225, 9, 247, 94, 237, 195, 204, 121, 57, 93, 132, 249, 207, 93], [209, 135, 108, 15, 121, 196, 48, 10, 180, 85, 148, 173, 214, 111, 244, 31], [253, 227, 186, 210, 5, 229, 208, 215, 53, 71, 150, 78, 241, 254, 55, 241], [189, 110, 124, 61, 242, 181, 119, 158, 11, 97, 33, 110, 139, 16, 182, 137], [105, 196, 224, 216, 106, 123, 4, 48, 216, 205, 183, 128, 112, 180, 197, 90]]
def awK : List UInt8 := [0, 1, 2, 3, 4, 5, 6, 7, 8, 9, 10, 11, 12, 13, 14, 15]
def awB : List UInt8 := [0, 17, 34, 51, 68, 85, 102, 119, 136, 153, 170, 187, 204, 221, 238, 255]
end Go.Proofs.Ytochjihddnkhcaa.By

namespace Go.Proofs.Ytochjihddnkhcaa.By
open Go.RowKit L A
set_option linter.unusedVariables false
set_option linter.unusedSimpArgs false
attribute [local irreducible] AW AQ AO
def cvB (key nonce : List UInt8) (tag : Int) : Bool := (key.length : Int) == 16 && decide (7 ≤ (nonce.length : Int)) && decide ((nonce.length : Int) ≤ 13) && decide (4 ≤ tag) && decide (tag ≤ 16) && tag.tmod 2 == 0
theorem cvB_bd {key nonce : List UInt8} {tag : Int} (h : cvB key nonce tag = true) : key.length = 16 ∧ 7 ≤ nonce.length ∧ nonce.length ≤ 13 ∧ 4 ≤ tag ∧ tag ≤ 16 ∧ tag % 2 = 0 := by
  unfold cvB at h
  simp only [Bool.and_eq_true, beq_iff_eq, decide_eq_true_eq] at h
  obtain ⟨⟨⟨⟨⟨h1, h2⟩, h3⟩, h4⟩, h5⟩, h6⟩ := h
  rw [Int.tmod_eq_emod_of_nonneg (by omega)] at h6
  omega
theorem cvB_of {key nonce : List UInt8} {tag : Int} (h : key.length = 16 ∧ 7 ≤ nonce.length ∧ nonce.length ≤ 13 ∧ 4 ≤ tag ∧ tag ≤ 16 ∧ tag % 2 = 0) : cvB key nonce tag = true := by
  unfold cvB
  simp only [Bool.and_eq_true, beq_iff_eq, decide_eq_true_eq]
  rw [Int.tmod_eq_emod_of_nonneg (by omega)]
  omega
theorem cvalid_fn (key nonce : List UInt8) (tag : Int) : Sp Try.prog 26 [roB key, roB nonce, .val (.int .i64 tag)] [] (Is (.val (.bool (cvB key nonce tag)))) := by
  refine Sp.enter Try.func26 rfl _ Try.ntmps26 rfl (fun w0 R0 => ?_)
  refine AW.seq ?_
  refine AW.region ?_
  refine AO.op (O.assign rfl rfl) rfl rfl rfl ?_
  refine AO.nil ?_
  refine AQ.thenN ?_
  refine AW.seq ?_
  refine AW.region ?_
  refine AO.op (O.move rfl rfl) rfl rfl rfl ?_
  refine AO.op (O.lenR rfl rfl) rfl rfl rfl ?_
  refine AO.op (O.eql rfl rfl rfl (by rfl)) rfl rfl rfl ?_
  refine AO.op (O.move rfl rfl) rfl rfl rfl ?_
  refine AO.opG rfl rfl rfl (fun hp => O.move rfl rfl) ?_
  refine AO.opG rfl rfl rfl (fun hp => OpW.force 11 rfl (by exact hp) (O.lenR rfl rfl)) ?_
  refine AO.opG rfl rfl rfl (fun hp => OpW.force 12 rfl (by exact hp) (O.geq rfl rfl rfl (by rfl))) ?_
  refine AO.op (O.pickAnd rfl rfl rfl rfl (fun h => by exact h)) rfl rfl rfl ?_
  refine AO.op (O.move rfl rfl) rfl rfl rfl ?_
  refine AO.opG rfl rfl rfl (fun hp => O.move rfl rfl) ?_
  refine AO.opG rfl rfl rfl (fun hp => OpW.force 16 rfl (by exact hp) (O.lenR rfl rfl)) ?_
  refine AO.opG rfl rfl rfl (fun hp => OpW.force 17 rfl (by exact hp) (O.leq rfl rfl rfl (by rfl))) ?_
  refine AO.op (O.pickAnd rfl rfl rfl rfl (fun h => by exact h)) rfl rfl rfl ?_
  refine AO.op (O.move rfl rfl) rfl rfl rfl ?_
  refine AO.opG rfl rfl rfl (fun hp => O.move rfl rfl) ?_
  refine AO.opG rfl rfl rfl (fun hp => OpW.force 21 rfl (by exact hp) (O.geq rfl rfl rfl (by rfl))) ?_
  refine AO.op (O.pickAnd rfl rfl rfl rfl (fun h => by exact h)) rfl rfl rfl ?_
  refine AO.op (O.move rfl rfl) rfl rfl rfl ?_
  refine AO.opG rfl rfl rfl (fun hp => O.move rfl rfl) ?_
  refine AO.opG rfl rfl rfl (fun hp => OpW.force 25 rfl (by exact hp) (O.leq rfl rfl rfl (by rfl))) ?_
  refine AO.op (O.pickAnd rfl rfl rfl rfl (fun h => by exact h)) rfl rfl rfl ?_
  refine AO.op (O.move rfl rfl) rfl rfl rfl ?_
  refine AO.opG rfl rfl rfl (fun hp => O.move rfl rfl) ?_
  refine AO.opG rfl rfl rfl (fun hp => OpW.force 29 rfl (by exact hp) (O.rem rfl rfl rfl (by omega) rfl)) ?_
  refine AO.opG rfl rfl rfl (fun hp => OpW.force 30 rfl (by exact hp) (O.eql rfl rfl rfl (by rfl))) ?_
  refine AO.op (O.pickAnd rfl rfl rfl rfl (fun h => by exact h)) rfl rfl rfl ?_
  refine AO.op (O.assign rfl rfl) rfl rfl rfl ?_
  refine AO.nil ?_
  refine AQ.thenN ?_
  refine AW.ret ?_
  refine AQ.ret1 rfl rfl ⟨_, List.nil_sublist _, .nil⟩ (⟨rfl, rfl⟩)
theorem rcvalid_fn (key nonce : List UInt8) (tag : Int) : Sp Try.prog 27 [roB key, roB nonce, .val (.int .i64 tag)] [] (Is (.val (.bool (cvB key nonce tag)))) := by
  refine Sp.enter Try.func27 rfl _ Try.ntmps27 rfl (fun w0 R0 => ?_)
  refine AW.seq ?_
  refine AW.region ?_
  refine AO.op (O.assign rfl rfl) rfl rfl rfl ?_
  refine AO.nil ?_
  refine AQ.thenN ?_
  refine AW.seq ?_
  refine AW.region ?_
  refine AO.op (O.move rfl rfl) rfl rfl rfl ?_
  refine AO.op (O.lenR rfl rfl) rfl rfl rfl ?_
  refine AO.op (O.eql rfl rfl rfl (by rfl)) rfl rfl rfl ?_
  refine AO.op (O.move rfl rfl) rfl rfl rfl ?_
  refine AO.opG rfl rfl rfl (fun hp => O.move rfl rfl) ?_
  refine AO.opG rfl rfl rfl (fun hp => OpW.force 11 rfl (by exact hp) (O.lenR rfl rfl)) ?_
  refine AO.opG rfl rfl rfl (fun hp => OpW.force 12 rfl (by exact hp) (O.geq rfl rfl rfl (by rfl))) ?_
  refine AO.op (O.pickAnd rfl rfl rfl rfl (fun h => by exact h)) rfl rfl rfl ?_
  refine AO.op (O.move rfl rfl) rfl rfl rfl ?_
  refine AO.opG rfl rfl rfl (fun hp => O.move rfl rfl) ?_
  refine AO.opG rfl rfl rfl (fun hp => OpW.force 16 rfl (by exact hp) (O.lenR rfl rfl)) ?_
  refine AO.opG rfl rfl rfl (fun hp => OpW.force 17 rfl (by exact hp) (O.leq rfl rfl rfl (by rfl))) ?_
  refine AO.op (O.pickAnd rfl rfl rfl rfl (fun h => by exact h)) rfl rfl rfl ?_
  refine AO.op (O.move rfl rfl) rfl rfl rfl ?_
  refine AO.opG rfl rfl rfl (fun hp => O.move rfl rfl) ?_
  refine AO.opG rfl rfl rfl (fun hp => OpW.force 21 rfl (by exact hp) (O.geq rfl rfl rfl (by rfl))) ?_
  refine AO.op (O.pickAnd rfl rfl rfl rfl (fun h => by exact h)) rfl rfl rfl ?_
  refine AO.op (O.move rfl rfl) rfl rfl rfl ?_
  refine AO.opG rfl rfl rfl (fun hp => O.move rfl rfl) ?_
  refine AO.opG rfl rfl rfl (fun hp => OpW.force 25 rfl (by exact hp) (O.leq rfl rfl rfl (by rfl))) ?_
  refine AO.op (O.pickAnd rfl rfl rfl rfl (fun h => by exact h)) rfl rfl rfl ?_
  refine AO.op (O.move rfl rfl) rfl rfl rfl ?_
  refine AO.opG rfl rfl rfl (fun hp => O.move rfl rfl) ?_
  refine AO.opG rfl rfl rfl (fun hp => OpW.force 29 rfl (by exact hp) (O.rem rfl rfl rfl (by omega) rfl)) ?_
  refine AO.opG rfl rfl rfl (fun hp => OpW.force 30 rfl (by exact hp) (O.eql rfl rfl rfl (by rfl))) ?_
  refine AO.op (O.pickAnd rfl rfl rfl rfl (fun h => by exact h)) rfl rfl rfl ?_
  refine AO.op (O.assign rfl rfl) rfl rfl rfl ?_
  refine AO.nil ?_
  refine AQ.thenN ?_
  refine AW.ret ?_
  refine AQ.ret1 rfl rfl ⟨_, List.nil_sublist _, .nil⟩ (⟨rfl, rfl⟩)
def callsN (a p : Int) : Int := if a < 0 ∨ p < 0 ∨ 4096 < a ∨ 4096 < p then 0 else 2 + (p + 15) / 16 * 2 + (if 0 < a then (a + 2 + 15) / 16 else 0)
theorem calls_fn (a p : Int) : Sp Try.prog 28 [.val (.int .i64 a), .val (.int .i64 p)] [] (Is (.val (.int .i64 (callsN a p)))) := by
  refine Sp.enter Try.func28 rfl _ Try.ntmps28 rfl (fun w0 R0 => ?_)
  refine AW.seq ?_
  refine AW.region ?_
  refine AO.op (O.assign rfl rfl) rfl rfl rfl ?_
  refine AO.nil ?_
  refine AQ.thenN ?_
  refine AW.seq ?_
  refine AW.seq ?_
  refine AW.region ?_
  refine AO.op (O.move rfl rfl) rfl rfl rfl ?_
  refine AO.op (O.lss rfl rfl rfl (by rfl)) rfl rfl rfl ?_
  refine AO.op (O.move rfl rfl) rfl rfl rfl ?_
  refine AO.opG rfl rfl rfl (fun hp => O.move rfl rfl) ?_
  refine AO.opG rfl rfl rfl (fun hp => OpW.force 9 rfl (by exact hp) (O.lss rfl rfl rfl (by rfl))) ?_
  refine AO.op (O.pickOr rfl rfl rfl rfl (fun h => by exact congrArg (fun b => !b) h)) rfl rfl rfl ?_
  refine AO.op (O.move rfl rfl) rfl rfl rfl ?_
  refine AO.opG rfl rfl rfl (fun hp => O.move rfl rfl) ?_
  refine AO.opG rfl rfl rfl (fun hp => OpW.force 13 rfl (by exact hp) (O.gtr rfl rfl rfl (by rfl))) ?_
  refine AO.op (O.pickOr rfl rfl rfl rfl (fun h => by exact congrArg (fun b => !b) h)) rfl rfl rfl ?_
  refine AO.op (O.move rfl rfl) rfl rfl rfl ?_
  refine AO.opG rfl rfl rfl (fun hp => O.move rfl rfl) ?_
  refine AO.opG rfl rfl rfl (fun hp => OpW.force 17 rfl (by exact hp) (O.gtr rfl rfl rfl (by rfl))) ?_
  refine AO.op (O.pickOr rfl rfl rfl rfl (fun h => by exact congrArg (fun b => !b) h)) rfl rfl rfl ?_
  refine AO.nil ?_
  refine AQ.thenN ?_
  refine AW.split rfl (fun h => ?_) (fun h => ?_) <;> (try simp only [decide_eq_true_eq, decide_eq_false_iff_not, beq_iff_eq, beq_eq_false_iff_ne, bne_iff_ne, bne_eq_false_iff_eq, Bool.not_eq_true', Bool.not_eq_false', Bool.not_eq_true, Bool.not_eq_false, ne_eq, Int.not_lt, Int.not_le, Bool.and_eq_true, Bool.or_eq_true, Bool.or_eq_false_iff, Bool.and_eq_false_imp, strOf_toList, Decidable.not_not] at h)
  · skip
    have e : callsN a p = 0 := if_pos (by omega)
    refine AW.seq ?_
    refine AW.region ?_
    refine AO.op (O.assign rfl rfl) rfl rfl rfl ?_
    refine AO.nil ?_
    refine AQ.thenN ?_
    refine AW.ret ?_
    refine AQ.thenR ?_
    refine AQ.ret1 rfl rfl ⟨_, List.nil_sublist _, .nil⟩ (⟨by rw [e]; rfl, rfl⟩)
  · skip
    have h' : ¬ (a < 0 ∨ p < 0 ∨ 4096 < a ∨ 4096 < p) := by omega
    refine AW.skip ?_
    refine AQ.thenN ?_
    refine AW.seq ?_
    refine AW.region ?_
    refine AO.op (O.move rfl rfl) rfl rfl rfl ?_
    refine AO.op (O.add rfl rfl rfl (by exact wI64 (by omega))) rfl rfl rfl ?_
    refine AO.op (O.quo rfl rfl rfl (by omega) (quoE ⟨by omega, by omega⟩ (by omega))) rfl rfl rfl ?_
    refine AO.op (O.mul rfl rfl rfl (by exact wI64 (by omega))) rfl rfl rfl ?_
    refine AO.op (O.add rfl rfl rfl (by exact wI64 (by omega))) rfl rfl rfl ?_
    refine AO.op (O.assign rfl rfl) rfl rfl rfl ?_
    refine AO.nil ?_
    refine AQ.thenN ?_
    refine AW.seq ?_
    refine AW.seq ?_
    refine AW.region ?_
    refine AO.op (O.move rfl rfl) rfl rfl rfl ?_
    refine AO.op (O.gtr rfl rfl rfl (by rfl)) rfl rfl rfl ?_
    refine AO.nil ?_
    refine AQ.thenN ?_
    refine AW.split rfl (fun h2 => ?_) (fun h2 => ?_) <;> (try simp only [decide_eq_true_eq, decide_eq_false_iff_not, beq_iff_eq, beq_eq_false_iff_ne, bne_iff_ne, bne_eq_false_iff_eq, Bool.not_eq_true', Bool.not_eq_false', Bool.not_eq_true, Bool.not_eq_false, ne_eq, Int.not_lt, Int.not_le, Bool.and_eq_true, Bool.or_eq_true, Bool.or_eq_false_iff, Bool.and_eq_false_imp, strOf_toList, Decidable.not_not] at h2)
    · skip
      have e : callsN a p = 2 + (p + 15) / 16 * 2 + (a + 2 + 15) / 16 := by rw [callsN, if_neg h', if_pos (by omega)]
      refine AW.region ?_
      refine AO.op (O.move rfl rfl) rfl rfl rfl ?_
      refine AO.op (O.move rfl rfl) rfl rfl rfl ?_
      refine AO.op (O.add rfl rfl rfl (by exact wI64 (by omega))) rfl rfl rfl ?_
      refine AO.op (O.add rfl rfl rfl (by exact wI64 (by omega))) rfl rfl rfl ?_
      refine AO.op (O.quo rfl rfl rfl (by omega) (quoE ⟨by omega, by omega⟩ (by omega))) rfl rfl rfl ?_
      refine AO.op (O.add rfl rfl rfl (by exact wI64 (by omega))) rfl rfl rfl ?_
      refine AO.op (O.assign rfl rfl) rfl rfl rfl ?_
      refine AO.nil ?_
      refine AQ.thenN ?_
      refine AW.seq ?_
      refine AW.region ?_
      refine AO.op (O.move rfl rfl) rfl rfl rfl ?_
      refine AO.op (O.assign rfl rfl) rfl rfl rfl ?_
      refine AO.nil ?_
      refine AQ.thenN ?_
      refine AW.ret ?_
      refine AQ.ret1 rfl rfl ⟨_, List.nil_sublist _, .nil⟩ (⟨by rw [e] <;> (congr 2; omega), rfl⟩)
    · skip
      have e : callsN a p = 2 + (p + 15) / 16 * 2 := by rw [callsN, if_neg h', if_neg (by omega)]; omega
      refine AW.skip ?_
      refine AQ.thenN ?_
      refine AW.seq ?_
      refine AW.region ?_
      refine AO.op (O.move rfl rfl) rfl rfl rfl ?_
      refine AO.op (O.assign rfl rfl) rfl rfl rfl ?_
      refine AO.nil ?_
      refine AQ.thenN ?_
      refine AW.ret ?_
      refine AQ.ret1 rfl rfl ⟨_, List.nil_sublist _, .nil⟩ (⟨by rw [e] <;> (congr 2; omega), rfl⟩)
/-! blocks -/
def blkF (first : UInt8) (nonce : List UInt8) (n : Int) (q : Nat) : UInt8 := if q = 0 then first else if q ≤ nonce.length then kf nonce (q - 1) else u8 (n / 256 ^ (15 - q))
def b0F (first : UInt8) (nonce : List UInt8) (q : Nat) : UInt8 := if q = 0 then first else if q ≤ nonce.length then kf nonce (q - 1) else 0
theorem arB_kf (l : List UInt8) : bytesA l = arB l.length (kf l) := by
  have h := fnB_kf (l := l) rfl
  exact (congrArg bytesA h).symm
theorem copyN {first : UInt8} {nonce : List UInt8} (h : nonce.length ≤ 15) : splice (arB 16 fun q => if q = 0 then first else 0) 1 ((bytesA nonce).take (min nonce.length 15)) = arB 16 (b0F first nonce) := by
  rw [Nat.min_eq_left h, List.take_of_length_le (Nat.le_of_eq (bytesA_length _)), arB_kf, arB_splice (by omega)]
  refine arB_congr fun q hq => ?_
  unfold b0F
  by_cases h0 : q = 0
  · rw [if_neg (by omega), if_pos h0, if_pos h0]
  · rw [if_neg h0, if_neg h0]
    by_cases h1 : q ≤ nonce.length
    · rw [if_pos (by omega), if_pos h1]
    · rw [if_neg (by omega), if_neg h1]
def bI (first : UInt8) (nonce : List UInt8) (n : Int) (i q : Nat) : UInt8 := if i < q then blkF first nonce n q else b0F first nonce q
theorem pow_step (n : Int) (k : Nat) : n / 256 ^ k / 256 = n / 256 ^ (k + 1) := by
  rw [Int.ediv_ediv_of_nonneg (Int.pow_nonneg (by decide)), Int.pow_succ]
theorem bI_step {first : UInt8} {nonce : List UInt8} {n : Int} {i : Nat} (hi : i < 15 + 1) (hl : nonce.length < i) (q : Nat) : (if q = i then u8 (n / 256 ^ (15 - i)) else bI first nonce n i q) = bI first nonce n (i - 1) q := by
  unfold bI
  rcases Nat.lt_trichotomy q i with h | h | h
  · rw [if_neg (by omega), if_neg (by omega), if_neg (by omega)]
  · rw [if_pos h, if_pos (by omega), blkF, if_neg (by omega), if_neg (by omega), h]
  · rw [if_neg (by omega), if_pos h, if_pos (by omega)]
theorem u8_zero : u8 0 = 0 := by decide
theorem bI_end {first : UInt8} {nonce : List UInt8} {n : Int} {i : Nat} (h : i ≤ nonce.length ∨ n / 256 ^ (15 - i) ≤ 0) (hn : 0 ≤ n) (hi : i ≤ 15) (q : Nat) (hq : q < 16) : bI first nonce n i q = blkF first nonce n q := by
  unfold bI
  by_cases h1 : i < q
  · rw [if_pos h1]
  · rw [if_neg h1]
    unfold b0F blkF
    by_cases h0 : q = 0
    · rw [if_pos h0, if_pos h0]
    · rw [if_neg h0, if_neg h0]
      by_cases h2 : q ≤ nonce.length
      · rw [if_pos h2, if_pos h2]
      · rw [if_neg h2, if_neg h2]
        rcases h with h | h
        · omega
        · have hz : n / 256 ^ (15 - i) = 0 := Int.le_antisymm h (Int.ediv_nonneg hn (Int.pow_nonneg (by decide)))
          have hq0 : n / 256 ^ (15 - q) = 0 := by
            rw [show 15 - q = (15 - i) + (i - q) by omega, Int.pow_add, ← Int.ediv_ediv_of_nonneg (Int.pow_nonneg (by decide)), hz, Int.zero_ediv]
          rw [hq0]; exact u8_zero.symm
set_option maxHeartbeats 2000000 in
theorem block_any (first : UInt8) (nonce : List UInt8) (n : Int) (hl : nonce.length ≤ 13) (hn : 0 ≤ n ∧ n ≤ 9223372036854775807) : Sp Try.prog 59 [by8 first, roB nonce, .val (.int .i64 n)] [] (Is (.agg (arB 16 (blkF first nonce n)))) := by
  have hl : nonce.length ≤ 15 := by omega
  refine Sp.enter Try.func59 rfl _ Try.ntmps59 rfl (fun w0 R0 => ?_)
  refine AW.seq ?_
  refine AW.region ?_
  (refine AO.opB (O.alloc rfl (by (dsimp only [List.set, List.append, List.cons_append, List.nil_append, splice, ofConst, AV.cells, List.map, List.map_cons, List.map_nil, List.take, List.drop, Nat.zero_add, Nat.add_zero, Nat.reduceAdd, Nat.reduceMul, Nat.zero_mul, Value.cells, List.toList_toArray, zerosA, List.replicate, List.flatten, List.append_nil]; done)) (by rfl)) rfl rfl rfl ?_)
  intro B1
  refine AO.nil ?_
  refine AQ.thenN ?_
  refine AW.seq ?_
  refine AW.region ?_
  refine AO.op (O.move rfl rfl) rfl rfl rfl ?_
  refine AO.op (O.build rfl rfl rfl (by rfl)) rfl rfl rfl ?_
  (refine AO.opB (O.alloc rfl (by (dsimp only [List.set, List.append, List.cons_append, List.nil_append, splice, ofConst, AV.cells, List.map, List.map_cons, List.map_nil, List.take, List.drop, Nat.zero_add, Nat.add_zero, Nat.reduceAdd, Nat.reduceMul, Nat.zero_mul, Value.cells, List.toList_toArray, zerosA, List.replicate, List.flatten, List.append_nil]; done)) (by rfl)) rfl rfl rfl ?_)
  intro B2
  (refine AO.store (i := 0) rfl rfl rfl rfl rfl rfl (by rfl) (by rfl) (by rfl) (by rfl) (by (dsimp only [List.set, List.append, List.cons_append, List.nil_append, splice, ofConst, AV.cells, List.map, List.map_cons, List.map_nil, List.take, List.drop, Nat.zero_add, Nat.add_zero, Nat.reduceAdd, Nat.reduceMul, Nat.zero_mul, Value.cells, List.toList_toArray, zerosA, List.replicate, List.flatten, List.append_nil]; done)) ?_)
  refine AO.nil ?_
  refine AQ.thenN ?_
  refine AW.seq ?_
  refine AW.region ?_
  refine AO.op (O.sliceArrK (p := 1) rfl rfl rfl rfl (by rfl) (by rfl) ⟨by omega, by omega⟩ (by omega)) rfl rfl rfl ?_
  refine AO.op (O.move rfl rfl) rfl rfl rfl ?_
  (refine AO.copyIn (i := 0) rfl rfl rfl rfl (by exact bytesA_length _) (by exact bytesA_one _) rfl (by show 0 + 1 * 1 + min nonce.length (16 - 1) ≤ 16; omega) (by exact copyN hl) rfl rfl (fun q h => by cases h; exact Nat.le_of_ble_eq_true rfl) ?_)
  rintro _ rfl
  dsimp only [List.set]
  refine AO.nil ?_
  refine AQ.thenN ?_
  refine AW.seq ?_
  refine AW.seq ?_
  refine AW.region ?_
  refine AO.op (O.assign rfl rfl) rfl rfl rfl ?_
  refine AO.nil ?_
  refine AQ.thenN ?_
  refine AW.block ?_
  have e0 : arB 16 (b0F first nonce) = arB 16 (bI first nonce n 15) := arB_congr fun q hq => by unfold bI; rw [if_neg (by omega)]
  rw [e0]
  refine AW.loopK [(1, _), (6, _), (7, _)] (fun nn E H => ∃ (i : Nat) (v : Int), (i ≤ 15 ∧ nonce.length ≤ i) ∧ (v = n / 256 ^ (15 - i)) ∧ i = nn ∧ E = [(2, .val (.int .i64 v)), (8, .val (.int .i64 (i : Int)))] ∧ H = [.blk B2 55 16 (arB 16 (bI first nonce n i)), .blk B1 55 16 (arB 16 fun _ => 0)]) _ (⟨15, n, by omega, by simp, rfl, rfl, rfl⟩) (by repeat (first | exact envNil | refine envCons rfl ?_)) (by repeat (first | exact envNil | refine envCons rfl ?_)) (by repeat (first | exact subPnil | refine subPcons 0 rfl ?_)) ?_
  rintro nn E H ⟨i, v, hi, hv, rfl, rfl, rfl⟩
  dsimp only [List.cons_append, List.nil_append]
  have hv0 : 0 ≤ v := by rw [hv]; exact Int.ediv_nonneg hn.1 (Int.pow_nonneg (by decide))
  have hv1 : v ≤ n := by rw [hv]; exact Int.ediv_le_self _ hn.1
  refine AW.seq ?_
  refine AW.seq ?_
  refine AW.region ?_
  refine AO.op (O.move rfl rfl) rfl rfl rfl ?_
  refine AO.op (O.move rfl rfl) rfl rfl rfl ?_
  refine AO.op (O.lenR rfl rfl) rfl rfl rfl ?_
  refine AO.op (O.gtr rfl rfl rfl (by rfl)) rfl rfl rfl ?_
  refine AO.op (O.move rfl rfl) rfl rfl rfl ?_
  refine AO.opG rfl rfl rfl (fun hp => O.move rfl rfl) ?_
  refine AO.opG rfl rfl rfl (fun hp => OpW.force 19 rfl (by exact hp) (O.gtr rfl rfl rfl (by rfl))) ?_
  refine AO.op (O.pickAnd rfl rfl rfl rfl (fun h => by exact h)) rfl rfl rfl ?_
  refine AO.nil ?_
  refine AQ.thenN ?_
  refine AW.split rfl (fun h => ?_) (fun h => ?_) <;> (try simp only [decide_eq_true_eq, decide_eq_false_iff_not, beq_iff_eq, beq_eq_false_iff_ne, bne_iff_ne, bne_eq_false_iff_eq, Bool.not_eq_true', Bool.not_eq_false', Bool.not_eq_true, Bool.not_eq_false, ne_eq, Int.not_lt, Int.not_le, Bool.and_eq_true, Bool.or_eq_true, Bool.or_eq_false_iff, Bool.and_eq_false_imp, strOf_toList, Decidable.not_not] at h)
  · skip
    obtain ⟨j, rfl⟩ : ∃ j, i = j + 1 := ⟨i - 1, by omega⟩
    refine AW.skip ?_
    refine AQ.thenN ?_
    refine AW.seq ?_
    refine AW.block ?_
    refine AW.seq ?_
    refine AW.region ?_
    refine AO.op (O.move rfl rfl) rfl rfl rfl ?_
    refine AO.op (O.move rfl rfl) rfl rfl rfl ?_
    refine AO.op (O.conv rfl rfl wU8any) rfl rfl rfl ?_
    refine AO.op (O.idxL rfl rfl rfl ⟨(by omega), (by omega)⟩) rfl rfl rfl ?_
    (refine AO.store (i := 0) rfl rfl rfl rfl rfl rfl (by rfl) (by rfl) (by exact Nat.ble_eq_true_of_le (by rw [arB_len]; omega)) (by exact arB_set (k := j + 1) (by omega) _ (by omega)) (by (dsimp only [List.set, List.append, List.cons_append, List.nil_append, splice, ofConst, AV.cells, List.map, List.map_cons, List.map_nil, List.take, List.drop, Nat.zero_add, Nat.add_zero, Nat.reduceAdd, Nat.reduceMul, Nat.zero_mul, Value.cells, List.toList_toArray, zerosA, List.replicate, List.flatten, List.append_nil]; done)) ?_)
    refine AO.nil ?_
    refine AQ.thenN ?_
    refine AW.region ?_
    refine AO.op (O.move rfl rfl) rfl rfl rfl ?_
    refine AO.op (O.shrK 8 256 rfl rfl rfl rfl (by rfl)) rfl rfl rfl ?_
    refine AO.op (O.assign rfl rfl) rfl rfl rfl ?_
    refine AO.nil ?_
    refine AQ.blockN ?_
    refine AQ.thenN ?_
    refine AW.region ?_
    refine AO.op (O.move rfl rfl) rfl rfl rfl ?_
    refine AO.op (O.sub rfl rfl rfl (by exact wI64 (by omega))) rfl rfl rfl ?_
    refine AO.op (O.assign rfl rfl) rfl rfl rfl ?_
    refine AO.nil ?_
    have e1 : arB 16 (fun q => if q = j + 1 then u8 v else bI first nonce n (j + 1) q) = arB 16 (bI first nonce n j) := arB_congr fun q _ => by
      rw [hv]; exact bI_step (by omega) (by omega) q
    rw [e1, show ((j + 1 : Nat) : Int) - 1 = (j : Int) by omega]
    have hv2 : v / 256 = n / 256 ^ (15 - j) := by rw [hv, pow_step]; congr 2; omega
    refine AQ.loopKN _ _ _ (by omega) (⟨j, v / 256, by omega, hv2, rfl, rfl, rfl⟩) (by repeat (first | exact envNil | refine envCons rfl ?_)) (by repeat (first | exact envNil | refine envCons rfl ?_)) (by repeat (first | exact subPnil | refine subPcons 0 rfl ?_))
  · skip
    have e2 : arB 16 (bI first nonce n i) = arB 16 (blkF first nonce n) := arB_congr fun q hq => bI_end (by rw [← hv]; omega) hn.1 hi.1 q hq
    rw [e2]
    refine AW.exit ?_
    refine AQ.thenX ?_
    refine AQ.loopX ?_
    refine AQ.blockX rfl ?_
    refine AQ.thenN ?_
    refine AW.seq ?_
    refine AW.region ?_
    refine AO.op (O.loadK rfl rfl (by repeat (exact List.Mem.head _)) (by exact List.take_of_length_le (Nat.le_of_eq (arB_len _ _))) (by exact arB_len _ _)) rfl rfl rfl ?_
    (refine AO.store (i := 1) rfl rfl rfl rfl rfl rfl (by exact arB_one _ _) (by exact arB_len _ _) (by exact Nat.ble_eq_true_of_le (Nat.le_of_eq (arB_len _ _).symm)) (by exact splice_arB (arB_len _ _)) (by (dsimp only [List.set, List.append, List.cons_append, List.nil_append, splice, ofConst, AV.cells, List.map, List.map_cons, List.map_nil, List.take, List.drop, Nat.zero_add, Nat.add_zero, Nat.reduceAdd, Nat.reduceMul, Nat.zero_mul, Value.cells, List.toList_toArray, zerosA, List.replicate, List.flatten, List.append_nil]; done)) ?_)
    refine AO.nil ?_
    refine AQ.thenN ?_
    refine AW.ret ?_
    refine AQ.retCell (ys := arB 16 (blkF first nonce n)) rfl rfl (by repeat (first | exact List.Mem.head _ | refine List.Mem.tail _ ?_)) (List.take_of_length_le (Nat.le_of_eq (arB_len _ _))) (arB_len _ _) ⟨_, List.nil_sublist _, .nil⟩ ⟨rfl, rfl⟩
end Go.Proofs.Ytochjihddnkhcaa.By

namespace Go.Proofs.Ytochjihddnkhcaa.By
open Go.RowKit L A
set_option linter.unusedVariables false
set_option linter.unusedSimpArgs false
attribute [local irreducible] AW AQ AO
/-- What a list of bytes makes of a value: sixteen at a time. -/
def absorb (w : Nat → UInt8) (x : Nat → UInt8) (l : List UInt8) : Nat → UInt8 :=
  if h : l = [] then x else absorb w (enc w fun q => x q ^^^ kf l q) (l.drop 16)
termination_by l.length
decreasing_by
  have : 0 < l.length := List.length_pos_iff.2 h
  simp; omega
theorem absorb_nil (w x : Nat → UInt8) : absorb w x [] = x := by rw [absorb, dif_pos rfl]
theorem absorb_cons {w x : Nat → UInt8} {l : List UInt8} (h : l ≠ []) : absorb w x l = absorb w (enc w fun q => x q ^^^ kf l q) (l.drop 16) := by rw [absorb, dif_neg h]
theorem kf_drop (l : List UInt8) {q : Nat} (h : l.length ≤ q) : kf l q = 0 := by simp [kf, h]
set_option maxHeartbeats 4000000 in
theorem chain1_fn (w : Nat → UInt8) (b : Nat) (x : Nat → UInt8) (l : List UInt8) (hl : l.length ≤ 1000000) : Sp Try.prog 63 [roB l, pt b, .rp [.rp (cipA w) 0] 0] [.blk b 55 16 (arB 16 x)] (IsM (.agg (arB 16 (absorb w x l))) (.blk b 55 16 (arB 16 (absorb w x l)))) := by
  refine Sp.enter Try.func63 rfl _ Try.ntmps63 rfl (fun w0 R0 => ?_)
  refine AW.seq ?_
  refine AW.region ?_
  (refine AO.opB (O.alloc rfl (by (dsimp only [List.set, List.append, List.cons_append, List.nil_append, splice, ofConst, AV.cells, List.map, List.map_cons, List.map_nil, List.take, List.drop, Nat.zero_add, Nat.add_zero, Nat.reduceAdd, Nat.reduceMul, Nat.zero_mul, Value.cells, List.toList_toArray, zerosA, List.replicate, List.flatten, List.append_nil]; done)) (by rfl)) rfl rfl rfl ?_)
  intro B1
  refine AO.nil ?_
  refine AQ.thenN ?_
  refine AW.seq ?_
  refine AW.block ?_
  refine AW.loopK [(1, _), (2, _), (4, _)] (fun nn E H => ∃ (l' : List UInt8) (x' : Nat → UInt8), (absorb w x' l' = absorb w x l) ∧ (l'.length ≤ 1000000) ∧ nn = l'.length ∧ E = [(0, roB l')] ∧ H = [.blk B1 55 16 (arB 16 fun _ => 0), .blk b 55 16 (arB 16 x')]) _ (⟨l, x, rfl, hl, rfl, rfl, rfl⟩) (by repeat (first | exact envNil | refine envCons rfl ?_)) (by repeat (first | exact envNil | refine envCons rfl ?_)) (by repeat (first | exact subPnil | refine subPcons 0 rfl ?_)) ?_
  rintro nn E H ⟨l', x', hx, hl', rfl, rfl, rfl⟩
  dsimp only [List.cons_append, List.nil_append]
  refine AW.seq ?_
  refine AW.seq ?_
  refine AW.region ?_
  refine AO.op (O.move rfl rfl) rfl rfl rfl ?_
  refine AO.op (O.lenR rfl rfl) rfl rfl rfl ?_
  refine AO.op (O.gtr rfl rfl rfl (by rfl)) rfl rfl rfl ?_
  refine AO.nil ?_
  refine AQ.thenN ?_
  refine AW.split rfl (fun h => ?_) (fun h => ?_) <;> (try simp only [decide_eq_true_eq, decide_eq_false_iff_not, beq_iff_eq, beq_eq_false_iff_ne, bne_iff_ne, bne_eq_false_iff_eq, Bool.not_eq_true', Bool.not_eq_false', Bool.not_eq_true, Bool.not_eq_false, ne_eq, Int.not_lt, Int.not_le, Bool.and_eq_true, Bool.or_eq_true, Bool.or_eq_false_iff, Bool.and_eq_false_imp, strOf_toList, Decidable.not_not] at h)
  · skip
    obtain ⟨n, hn⟩ : ∃ n : Nat, n = min l'.length 16 := ⟨_, rfl⟩
    have hmin : (if (16 : Int) < (l'.length : Int) then (16 : Int) else (l'.length : Int)) = (n : Int) := by split <;> omega
    have hln : (l'.take n).length = n := by rw [List.length_take]; omega
    have hne : l' ≠ [] := fun e => by rw [e] at h; simp at h
    have hdr : l'.drop n = l'.drop 16 := by
      rcases Nat.lt_or_ge 16 l'.length with h1 | h1
      · rw [show n = 16 by omega]
      · rw [List.drop_eq_nil_of_le (by omega), List.drop_eq_nil_of_le (by omega)]
    refine AW.skip ?_
    refine AQ.thenN ?_
    refine AW.seq ?_
    refine AW.block ?_
    refine AW.seq ?_
    refine AW.seq ?_
    refine AW.region ?_
    refine AO.op (O.move rfl rfl) rfl rfl rfl ?_
    refine AO.op (O.move rfl rfl) rfl rfl rfl ?_
    refine AO.op (O.lenR rfl rfl) rfl rfl rfl ?_
    refine AO.op (O.minI rfl rfl rfl hmin) rfl rfl rfl ?_
    refine AO.op (O.sliceToB (k := n) rfl rfl rfl (by rfl) (by omega)) rfl rfl rfl ?_
    refine AO.op (O.lenR rfl rfl) rfl rfl rfl ?_
    refine AO.op (O.move rfl rfl) rfl rfl rfl ?_
    refine AO.nil ?_
    refine AQ.thenN ?_
    refine AW.block ?_
    have e0 : arB 16 x' = arB 16 (fun q => if q < 0 then x' q ^^^ kf l' q else x' q) := arB_congr fun q _ => (if_neg (by omega)).symm
    rw [e0]
    refine AW.loopK [(0, _), (1, _), (2, _), (4, _), (19, _), (20, _)] (fun nn E H => ∃ (i : Nat), (i ≤ n) ∧ nn = n - i ∧ E = [(21, .val (.int .i64 (i : Int)))] ∧ H = [.blk B1 55 16 (arB 16 fun _ => 0), .blk b 55 16 (arB 16 fun q => if q < i then x' q ^^^ kf l' q else x' q)]) _ (⟨0, by omega, rfl, rfl, rfl⟩) (by repeat (first | exact envNil | refine envCons rfl ?_)) (by repeat (first | exact envNil | refine envCons rfl ?_)) (by repeat (first | exact subPnil | refine subPcons 0 rfl ?_)) ?_
    rintro nn E H ⟨i, hi, rfl, rfl, rfl⟩
    dsimp only [List.cons_append, List.nil_append]
    refine AW.seq ?_
    refine AW.region ?_
    refine AO.op (O.lss rfl rfl rfl (by rfl)) rfl rfl rfl ?_
    refine AO.nil ?_
    refine AQ.thenN ?_
    refine AW.seq ?_
    refine AW.split rfl (fun h2 => ?_) (fun h2 => ?_) <;> (try simp only [decide_eq_true_eq, decide_eq_false_iff_not, beq_iff_eq, beq_eq_false_iff_ne, bne_iff_ne, bne_eq_false_iff_eq, Bool.not_eq_true', Bool.not_eq_false', Bool.not_eq_true, Bool.not_eq_false, ne_eq, Int.not_lt, Int.not_le, Bool.and_eq_true, Bool.or_eq_true, Bool.or_eq_false_iff, Bool.and_eq_false_imp, strOf_toList, Decidable.not_not] at h2)
    · skip
      have hi' : i < n := by omega
      have hget : (bytesA (l'.take n))[Int.toNat (i : Int) * 1]? = some (by8 (kf l' i)) := by
        rw [bt_at (k := i) (by omega) (by omega)]
        have : bt (l'.take n) i = kf l' i := by
          have h3 : i < l'.length := by omega
          simp [bt, kf, List.getElem?_take, hi', h3]
        rw [this]
      refine AW.skip ?_
      refine AQ.thenN ?_
      refine AW.seq ?_
      refine AW.block ?_
      refine AW.seq ?_
      refine AW.region ?_
      refine AO.op (O.move rfl rfl) rfl rfl rfl ?_
      refine AO.op (O.idxR rfl rfl rfl ⟨(by omega), (by omega)⟩) rfl rfl rfl ?_
      refine AO.op (O.loadR rfl rfl (by exact hget)) rfl rfl rfl ?_
      refine AO.op (O.assign rfl rfl) rfl rfl rfl ?_
      refine AO.op (O.assign rfl rfl) rfl rfl rfl ?_
      refine AO.nil ?_
      refine AQ.thenN ?_
      refine AW.region ?_
      refine AO.op (O.move rfl rfl) rfl rfl rfl ?_
      refine AO.op (O.idxL rfl rfl rfl ⟨(by omega), (by omega)⟩) rfl rfl rfl ?_
      refine AO.op (O.load rfl rfl (by repeat (first | exact List.Mem.head _ | refine List.Mem.tail _ ?_)) (by exact arB_get (k := i) (by omega) (by omega))) rfl rfl rfl ?_
      refine AO.op (O.move rfl rfl) rfl rfl rfl ?_
      refine AO.op (O.xor_ rfl rfl rfl xorU8) rfl rfl rfl ?_
      refine AO.op (O.idxL rfl rfl rfl ⟨(by omega), (by omega)⟩) rfl rfl rfl ?_
      (refine AO.store (i := 1) rfl rfl rfl rfl rfl rfl (by rfl) (by rfl) (by exact Nat.ble_eq_true_of_le (by rw [arB_len]; omega)) (by exact arB_set (k := i) (by omega) _ (by omega)) (by (dsimp only [List.set, List.append, List.cons_append, List.nil_append, splice, ofConst, AV.cells, List.map, List.map_cons, List.map_nil, List.take, List.drop, Nat.zero_add, Nat.add_zero, Nat.reduceAdd, Nat.reduceMul, Nat.zero_mul, Value.cells, List.toList_toArray, zerosA, List.replicate, List.flatten, List.append_nil]; done)) ?_)
      refine AO.nil ?_
      refine AQ.blockN ?_
      refine AQ.thenN ?_
      refine AW.region ?_
      refine AO.op (O.add rfl rfl rfl (by exact wI64 (by omega))) rfl rfl rfl ?_
      refine AO.op (O.move rfl rfl) rfl rfl rfl ?_
      refine AO.nil ?_
      have e1 : arB 16 (fun q => if q = i then (if i < i then x' i ^^^ kf l' i else x' i) ^^^ kf l' i else if q < i then x' q ^^^ kf l' q else x' q) = arB 16 (fun q => if q < i + 1 then x' q ^^^ kf l' q else x' q) := arB_congr fun q _ => by
        rcases Nat.lt_trichotomy q i with h1 | h1 | h1
        · rw [if_neg (by omega), if_pos h1, if_pos (by omega)]
        · rw [if_pos h1, if_neg (by omega), if_pos (by omega), h1]
        · rw [if_neg (by omega), if_neg (by omega), if_neg (by omega)]
      rw [e1]
      refine AQ.loopKN _ _ _ (by omega) (⟨i + 1, by omega, rfl, rfl, rfl⟩) (by repeat (first | exact envNil | refine envCons rfl ?_)) (by repeat (first | exact envNil | refine envCons rfl ?_)) (by repeat (first | exact subPnil | refine subPcons 0 rfl ?_))
    · skip
      obtain rfl : i = n := by omega
      have e2 : arB 16 (fun q => if q < i then x' q ^^^ kf l' q else x' q) = arB 16 (fun q => x' q ^^^ kf l' q) := arB_congr fun q hq => by
        by_cases h3 : q < i
        · rw [if_pos h3]
        · rw [if_neg h3, kf_drop l' (by omega), xor0]
      rw [e2]
      refine AW.exit ?_
      refine AQ.thenX ?_
      refine AQ.loopX ?_
      refine AQ.blockX rfl ?_
      refine AQ.thenN ?_
      refine AW.region ?_
      refine AO.op (O.loadR rfl rfl (by rfl)) rfl rfl rfl ?_
      refine AO.op (O.loadK rfl rfl (by repeat (first | exact List.Mem.head _ | refine List.Mem.tail _ ?_)) (by exact List.take_of_length_le (Nat.le_of_eq (arB_len _ _))) (by exact arB_len _ _)) rfl rfl rfl ?_
      refine AO.op (O.call rfl Try.func41 rfl rfl rfl (block_fn w _)) rfl rfl rfl ?_
      (refine AO.store (i := 1) rfl rfl rfl rfl rfl rfl (by exact arB_one _ _) (by exact arB_len _ _) (by exact Nat.ble_eq_true_of_le (Nat.le_of_eq (arB_len _ _).symm)) (by exact splice_arB (arB_len _ _)) (by (dsimp only [List.set, List.append, List.cons_append, List.nil_append, splice, ofConst, AV.cells, List.map, List.map_cons, List.map_nil, List.take, List.drop, Nat.zero_add, Nat.add_zero, Nat.reduceAdd, Nat.reduceMul, Nat.zero_mul, Value.cells, List.toList_toArray, zerosA, List.replicate, List.flatten, List.append_nil]; done)) ?_)
      refine AO.nil ?_
      refine AQ.blockN ?_
      refine AQ.thenN ?_
      refine AW.region ?_
      refine AO.op (O.move rfl rfl) rfl rfl rfl ?_
      refine AO.op (O.move rfl rfl) rfl rfl rfl ?_
      refine AO.op (O.lenR rfl rfl) rfl rfl rfl ?_
      refine AO.op (O.minI rfl rfl rfl hmin) rfl rfl rfl ?_
      refine AO.op (O.sliceFromB (k := i) rfl rfl rfl (by rfl) (by omega)) rfl rfl rfl ?_
      refine AO.op (O.assign rfl rfl) rfl rfl rfl ?_
      refine AO.nil ?_
      rw [hdr]
      refine AQ.loopKN _ _ _ (by rw [List.length_drop]; omega) (⟨l'.drop 16, enc w fun q => x' q ^^^ kf l' q, by rw [← absorb_cons hne]; exact hx, by rw [List.length_drop]; omega, rfl, rfl, rfl⟩) (by repeat (first | exact envNil | refine envCons rfl ?_)) (by repeat (first | exact envNil | refine envCons rfl ?_)) (by repeat (first | exact subPnil | refine subPcons 0 rfl ?_))
  · skip
    obtain rfl : l' = [] := List.eq_nil_of_length_eq_zero (by omega)
    rw [absorb_nil] at hx
    subst hx
    refine AW.exit ?_
    refine AQ.thenX ?_
    refine AQ.loopX ?_
    refine AQ.blockX rfl ?_
    refine AQ.thenN ?_
    refine AW.seq ?_
    refine AW.region ?_
    refine AO.op (O.loadK rfl rfl (by repeat (first | exact List.Mem.head _ | refine List.Mem.tail _ ?_)) (by exact List.take_of_length_le (Nat.le_of_eq (arB_len _ _))) (by exact arB_len _ _)) rfl rfl rfl ?_
    (refine AO.store (i := 0) rfl rfl rfl rfl rfl rfl (by exact arB_one _ _) (by exact arB_len _ _) (by exact Nat.ble_eq_true_of_le (Nat.le_of_eq (arB_len _ _).symm)) (by exact splice_arB (arB_len _ _)) (by (dsimp only [List.set, List.append, List.cons_append, List.nil_append, splice, ofConst, AV.cells, List.map, List.map_cons, List.map_nil, List.take, List.drop, Nat.zero_add, Nat.add_zero, Nat.reduceAdd, Nat.reduceMul, Nat.zero_mul, Value.cells, List.toList_toArray, zerosA, List.replicate, List.flatten, List.append_nil]; done)) ?_)
    refine AO.nil ?_
    refine AQ.thenN ?_
    refine AW.ret ?_
    refine AQ.retCell (ys := arB 16 (absorb w x l)) rfl rfl (by repeat (exact List.Mem.head _)) (List.take_of_length_le (Nat.le_of_eq (arB_len _ _))) (arB_len _ _) ⟨_, List.Sublist.cons _ (List.Sublist.cons_cons _ List.Sublist.slnil), .refl _⟩ ⟨rfl, rfl⟩
end Go.Proofs.Ytochjihddnkhcaa.By

namespace Go.Proofs.Ytochjihddnkhcaa.By
open Go.RowKit L A
set_option linter.unusedVariables false
set_option linter.unusedSimpArgs false
attribute [local irreducible] AW AQ AO
abbrev takeV (w : Nat → UInt8) (b : Nat) : AV := .fn (.func 63) [pt b, .rp [.rp (cipA w) 0] 0]
abbrev xB (b : Nat) (x : Nat → UInt8) : HE := .blk b 55 16 (arB 16 x)
theorem chain_fn (w : Nat → UInt8) : Sp Try.prog 60 [.rp (cipA w) 0] [] (fun v Hn => ∃ b, v = takeV w b ∧ Hn = [xB b fun _ => 0]) := by
  refine Sp.enter Try.func60 rfl _ Try.ntmps60 rfl (fun w0 R0 => ?_)
  refine AW.seq ?_
  refine AW.region ?_
  refine AO.opB (O.box rfl rfl rfl rfl rfl) rfl rfl rfl ?_
  intro B1
  refine AO.op (O.assign rfl rfl) rfl rfl rfl ?_
  refine AO.nil ?_
  refine AQ.thenN ?_
  refine AW.seq ?_
  refine AW.region ?_
  (refine AO.opB (O.alloc rfl (by (dsimp only [List.set, List.append, List.cons_append, List.nil_append, splice, ofConst, AV.cells, List.map, List.map_cons, List.map_nil, List.take, List.drop, Nat.zero_add, Nat.add_zero, Nat.reduceAdd, Nat.reduceMul, Nat.zero_mul, Value.cells, List.toList_toArray, zerosA, List.replicate, List.flatten, List.append_nil]; done)) (by rfl)) rfl rfl rfl ?_)
  intro B2
  refine AO.nil ?_
  refine AQ.thenN ?_
  refine AW.seq ?_
  refine AW.region ?_
  refine AO.g ?_
  refine G.freezePtr 1 1 rfl rfl ?_
  refine AO.u ?_
  dsimp only [List.eraseIdx]
  refine AO.op (O.fn rfl rfl) rfl rfl rfl ?_
  refine AO.op (O.assign rfl rfl) rfl rfl rfl ?_
  refine AO.nil ?_
  refine AQ.thenN ?_
  refine AW.ret ?_
  refine AQ.ret1 rfl rfl ⟨_, by repeat (first | exact List.Sublist.slnil | refine List.Sublist.cons_cons _ ?_), List.Perm.refl _⟩ (⟨B2, rfl, rfl⟩)
def fstB (aad nonce : List UInt8) (tag : Int) : UInt8 := u8 (8 * (tag / 2 - 1) + 14 - (nonce.length : Int) + (if aad = [] then 0 else 64))
def headA (aad : List UInt8) : List UInt8 := u8 ((aad.length : Int) / 256) :: u8 (aad.length : Int) :: aad
def macF (w : Nat → UInt8) (nonce aad plain : List UInt8) (tag : Int) : Nat → UInt8 :=
  absorb w (if aad = [] then absorb w (fun _ => 0) (fnB 16 (blkF (fstB aad nonce tag) nonce plain.length)) else absorb w (absorb w (fun _ => 0) (fnB 16 (blkF (fstB aad nonce tag) nonce plain.length))) (headA aad)) plain
theorem arFull (f : Nat → UInt8) : ((arB 16 f).drop (0 + 0 * 1)).take ((16 - 0) * 1) = arB 16 f := by
  show ((arB 16 f).drop 0).take 16 = _
  rw [List.drop_zero, List.take_of_length_le (Nat.le_of_eq (arB_len _ _))]
set_option maxHeartbeats 4000000 in
theorem auth_fn (w : Nat → UInt8) (nonce aad plain : List UInt8) (tag : Int) (hn13 : nonce.length ≤ 13) (ht : 4 ≤ tag ∧ tag ≤ 16) (ha : aad.length ≤ 10000) (hp : plain.length ≤ 10000) : Sp Try.prog 48 [.rp (cipA w) 0, roB nonce, roB aad, roB plain, .val (.int .i64 tag)] [] (Is (.agg (arB 16 (macF w nonce aad plain tag)))) := by
  refine Sp.enter Try.func48 rfl _ Try.ntmps48 rfl (fun w0 R0 => ?_)
  refine AW.seq ?_
  refine AW.region ?_
  (refine AO.opB (O.alloc rfl (by (dsimp only [List.set, List.append, List.cons_append, List.nil_append, splice, ofConst, AV.cells, List.map, List.map_cons, List.map_nil, List.take, List.drop, Nat.zero_add, Nat.add_zero, Nat.reduceAdd, Nat.reduceMul, Nat.zero_mul, Value.cells, List.toList_toArray, zerosA, List.replicate, List.flatten, List.append_nil]; done)) (by rfl)) rfl rfl rfl ?_)
  intro B1
  refine AO.nil ?_
  refine AQ.thenN ?_
  refine AW.seq ?_
  refine AW.region ?_
  refine AO.op (O.move rfl rfl) rfl rfl rfl ?_
  refine AO.opN (O.call rfl Try.func60 rfl rfl rfl (chain_fn w)) rfl rfl rfl ?_
  rintro _ _ ⟨B2, rfl, rfl⟩
  simp only [List.cons_append, List.nil_append]
  refine AO.op (O.assign rfl rfl) rfl rfl rfl ?_
  refine AO.nil ?_
  refine AQ.thenN ?_
  refine AW.seq ?_
  refine AW.region ?_
  refine AO.op (O.move rfl rfl) rfl rfl rfl ?_
  refine AO.op (O.quo rfl rfl rfl (by omega) (quoE ⟨by omega, by omega⟩ (by omega))) rfl rfl rfl ?_
  refine AO.op (O.sub rfl rfl rfl (by exact wI64 (by omega))) rfl rfl rfl ?_
  refine AO.op (O.mul rfl rfl rfl (by exact wI64 (by omega))) rfl rfl rfl ?_
  refine AO.op (O.add rfl rfl rfl (by exact wI64 (by omega))) rfl rfl rfl ?_
  refine AO.op (O.move rfl rfl) rfl rfl rfl ?_
  refine AO.op (O.lenR rfl rfl) rfl rfl rfl ?_
  refine AO.op (O.sub rfl rfl rfl (by exact wI64 (by omega))) rfl rfl rfl ?_
  refine AO.op (O.conv rfl rfl wU8any) rfl rfl rfl ?_
  refine AO.op (O.assign rfl rfl) rfl rfl rfl ?_
  refine AO.nil ?_
  refine AQ.thenN ?_
  refine AW.seq ?_
  refine AW.seq ?_
  refine AW.region ?_
  refine AO.op (O.move rfl rfl) rfl rfl rfl ?_
  refine AO.op (O.lenR rfl rfl) rfl rfl rfl ?_
  refine AO.op (O.gtr rfl rfl rfl (by rfl)) rfl rfl rfl ?_
  refine AO.nil ?_
  refine AQ.thenN ?_
  obtain ⟨z, hz⟩ : ∃ z, z = 8 * (tag / 2 - 1) + 14 - (nonce.length : Int) := ⟨_, rfl⟩
  have hzb : 0 ≤ z ∧ z ≤ 127 ∧ z + 64 ≤ 255 := by omega
  rw [← hz]
  refine AW.joinK (True) [(1, _), (2, _), (3, _), (10, _), (11, _)] [(12, by8 (fstB aad nonce tag))] [xB B2 (fun _ => 0), xB B1 (fun _ => 0)] rfl (by repeat (first | exact envNil | refine envCons rfl ?_)) (fun h27 => ?_) (fun h27 => ?_) (fun hj => ?_) <;> try (try simp only [decide_eq_true_eq, decide_eq_false_iff_not, beq_iff_eq, beq_eq_false_iff_ne, bne_iff_ne, bne_eq_false_iff_eq, Bool.not_eq_true', Bool.not_eq_false', Bool.not_eq_true, Bool.not_eq_false, ne_eq, Int.not_lt, Int.not_le, Bool.and_eq_true, Bool.or_eq_true, Bool.or_eq_false_iff, Bool.and_eq_false_imp, strOf_toList, Decidable.not_not] at h27)
  · skip
    have e : u8 (((u8 z).toNat : Int) + 64) = fstB aad nonce tag := by
      have hne : aad ≠ [] := fun e => by rw [e] at h27; simp at h27
      rw [fstB, if_neg hne, ← hz, u8_toNat]
      congr 1; omega
    refine AW.region ?_
    refine AO.op (O.move rfl rfl) rfl rfl rfl ?_
    refine AO.op (O.add rfl rfl rfl (by exact wU8any)) rfl rfl rfl ?_
    refine AO.op (O.assign rfl rfl) rfl rfl rfl ?_
    refine AO.nil ?_
    rw [e]
    refine AQ.midK (trivial) (by repeat (first | exact envNil | refine envCons rfl ?_)) (by repeat (first | exact envNil | refine envCons rfl ?_)) (by repeat (first | exact subPnil | refine subPcons 0 rfl ?_))
  · skip
    have e : u8 z = fstB aad nonce tag := by
      have hne : aad = [] := List.eq_nil_of_length_eq_zero (by omega)
      rw [fstB, if_pos hne, ← hz, Int.add_zero]
    refine AW.skip ?_
    rw [e]
    refine AQ.midK (trivial) (by repeat (first | exact envNil | refine envCons rfl ?_)) (by repeat (first | exact envNil | refine envCons rfl ?_)) (by repeat (first | exact subPnil | refine subPcons 0 rfl ?_))
  · dsimp only [List.cons_append, List.nil_append]
    refine AQ.thenN ?_
    obtain ⟨x1, hx1⟩ : ∃ x1, x1 = absorb w (fun _ => 0) (fnB 16 (blkF (fstB aad nonce tag) nonce plain.length)) := ⟨_, rfl⟩
    have hc1 := chain1_fn w B2 (fun _ => 0) (fnB 16 (blkF (fstB aad nonce tag) nonce plain.length)) (by rw [fnB_len]; omega)
    rw [← hx1] at hc1
    have hc2 := chain1_fn w B2 x1 (headA aad) (by simp only [headA, List.length_cons]; omega)
    obtain ⟨x2, hx2⟩ : ∃ x2, x2 = if aad = [] then x1 else absorb w x1 (headA aad) := ⟨_, rfl⟩
    have hc3 := chain1_fn w B2 x2 plain (by omega)
    refine AW.seq ?_
    refine AW.region ?_
    refine AO.op (O.move rfl rfl) rfl rfl rfl ?_
    refine AO.op (O.move rfl rfl) rfl rfl rfl ?_
    refine AO.op (O.move rfl rfl) rfl rfl rfl ?_
    refine AO.op (O.lenR rfl rfl) rfl rfl rfl ?_
    refine AO.op (O.call rfl Try.func59 rfl rfl rfl (block_any _ nonce _ hn13 ⟨by omega, by omega⟩)) rfl rfl rfl ?_
    (refine AO.opB (O.alloc rfl (by (dsimp only [List.set, List.append, List.cons_append, List.nil_append, splice, ofConst, AV.cells, List.map, List.map_cons, List.map_nil, List.take, List.drop, Nat.zero_add, Nat.add_zero, Nat.reduceAdd, Nat.reduceMul, Nat.zero_mul, Value.cells, List.toList_toArray, zerosA, List.replicate, List.flatten, List.append_nil]; done)) (by rfl)) rfl rfl rfl ?_)
    intro B3
    (refine AO.store (i := 0) rfl rfl rfl rfl rfl rfl (by exact arB_one _ _) (by exact arB_len _ _) (by rfl) (by exact splice_arB rfl) (by (dsimp only [List.set, List.append, List.cons_append, List.nil_append, splice, ofConst, AV.cells, List.map, List.map_cons, List.map_nil, List.take, List.drop, Nat.zero_add, Nat.add_zero, Nat.reduceAdd, Nat.reduceMul, Nat.zero_mul, Value.cells, List.toList_toArray, zerosA, List.replicate, List.flatten, List.append_nil]; done)) ?_)
    refine AO.g ?_
    refine G.freezePtr 0 13 rfl rfl ?_
    refine AO.u ?_
    dsimp only [List.eraseIdx]
    refine AO.nil ?_
    refine AQ.thenN ?_
    refine AW.seq ?_
    refine AW.region ?_
    refine AO.op (O.move rfl rfl) rfl rfl rfl ?_
    (refine AO.op (O.sliceArrRK (p := 0) rfl rfl rfl rfl (by rfl) (by rfl) ⟨by omega, by omega⟩ (by omega) (by (unfold maxLen; omega)) (by exact arFull _)) rfl rfl rfl ?_)
    (refine AO.callMV1 (i := 0) rfl rfl rfl Try.func63 rfl rfl rfl rfl rfl rfl (hc1) (by (dsimp only [List.set, List.append, List.cons_append, List.nil_append, splice, ofConst, AV.cells, List.map, List.map_cons, List.map_nil, List.take, List.drop, Nat.zero_add, Nat.add_zero, Nat.reduceAdd, Nat.reduceMul, Nat.zero_mul, Value.cells, List.toList_toArray, zerosA, List.replicate, List.flatten, List.append_nil]; done)) ?_)
    refine AO.nil ?_
    refine AQ.thenN ?_
    refine AW.seq ?_
    refine AW.seq ?_
    refine AW.region ?_
    refine AO.op (O.move rfl rfl) rfl rfl rfl ?_
    refine AO.op (O.lenR rfl rfl) rfl rfl rfl ?_
    refine AO.op (O.gtr rfl rfl rfl (by rfl)) rfl rfl rfl ?_
    refine AO.nil ?_
    refine AQ.thenN ?_
    refine AW.joinK (True) [(3, _), (10, _), (11, _)] [] [xB B2 x2, xB B1 (fun _ => 0)] rfl (by repeat (first | exact envNil | refine envCons rfl ?_)) (fun h40 => ?_) (fun h40 => ?_) (fun hj => ?_) <;> try (try simp only [decide_eq_true_eq, decide_eq_false_iff_not, beq_iff_eq, beq_eq_false_iff_ne, bne_iff_ne, bne_eq_false_iff_eq, Bool.not_eq_true', Bool.not_eq_false', Bool.not_eq_true, Bool.not_eq_false, ne_eq, Int.not_lt, Int.not_le, Bool.and_eq_true, Bool.or_eq_true, Bool.or_eq_false_iff, Bool.and_eq_false_imp, strOf_toList, Decidable.not_not] at h40)
    · skip
      have hne : aad ≠ [] := fun e => by rw [e] at h40; simp at h40
      have e2 : absorb w x1 (headA aad) = x2 := by rw [hx2, if_neg hne]
      have er : roB (headA aad) = AV.ro false (2 + aad.length) (AV.val (.int .u8 ((u8 ((aad.length : Int) / 256)).toNat : Int)) :: AV.val (.int .u8 ((u8 (aad.length : Int)).toNat : Int)) :: bytesA aad) := (roB_of (by simp only [headA, List.length_cons]; omega) rfl).symm
      rw [e2, er] at hc2
      refine AW.region ?_
      refine AO.op (O.move rfl rfl) rfl rfl rfl ?_
      refine AO.op (O.move rfl rfl) rfl rfl rfl ?_
      refine AO.op (O.lenR rfl rfl) rfl rfl rfl ?_
      refine AO.op (O.shrK 8 256 rfl rfl rfl rfl (by rfl)) rfl rfl rfl ?_
      refine AO.op (O.conv rfl rfl wU8any) rfl rfl rfl ?_
      refine AO.op (O.move rfl rfl) rfl rfl rfl ?_
      refine AO.op (O.lenR rfl rfl) rfl rfl rfl ?_
      refine AO.op (O.conv rfl rfl wU8any) rfl rfl rfl ?_
      refine AO.opB (O.buildSliceF rfl rfl rfl (by rfl) (by rfl) (by rfl) (by rfl) (by rfl)) rfl rfl rfl ?_
      intro B4
      refine AO.g ?_
      refine G.closeRow (b := B4) (n := 2) (cap := 2) 0 rfl rfl rfl (Nat.le_refl _) (by (unfold maxLen; omega)) ?_
      refine AO.u ?_
      dsimp only [List.set]
      refine AO.op (O.move rfl rfl) rfl rfl rfl ?_
      (refine AO.append' (i := 0) rfl rfl rfl rfl (by rfl) (by rfl) rfl rfl rfl (by exact SrcA.ro TyD.ax (by (simp; done)) (Nat.le_of_ble_eq_true rfl)) (by (simp [AV.cells, AV.one, *]; done)) (by (unfold maxLen; omega)) (by omega) (by (dsimp only [List.set, List.append, List.cons_append, List.nil_append, splice, ofConst, AV.cells, List.map, List.map_cons, List.map_nil, List.take, List.drop, Nat.zero_add, Nat.add_zero, Nat.reduceAdd, Nat.reduceMul, Nat.zero_mul, Value.cells, List.toList_toArray, zerosA, List.replicate, List.flatten, List.append_nil]; done)) (fun _ => by (dsimp only [List.set]; done)) ?_)
      intro V5 hV5
      refine AO.g ?_
      refine G.freezeRow 0 rfl [51] (by repeat (first | exact frNil | refine frCons rfl ?_)) ?_
      refine AO.u ?_
      dsimp only [List.map, List.eraseIdx, List.cons_append, List.nil_append]
      (refine AO.callMV1 (i := 0) rfl rfl rfl Try.func63 rfl rfl rfl rfl rfl rfl (hc2) (by (dsimp only [List.set, List.append, List.cons_append, List.nil_append, splice, ofConst, AV.cells, List.map, List.map_cons, List.map_nil, List.take, List.drop, Nat.zero_add, Nat.add_zero, Nat.reduceAdd, Nat.reduceMul, Nat.zero_mul, Value.cells, List.toList_toArray, zerosA, List.replicate, List.flatten, List.append_nil]; done)) ?_)
      refine AO.nil ?_
      refine AQ.midK0 (trivial) (by repeat (first | exact envNil | refine envCons rfl ?_)) (by repeat (first | exact subPnil | refine subPcons 0 rfl ?_))
    · skip
      have hne : aad = [] := List.eq_nil_of_length_eq_zero (by omega)
      have e2 : x1 = x2 := by rw [hx2, if_pos hne]
      refine AW.skip ?_
      rw [e2]
      refine AQ.midK (trivial) (by repeat (first | exact envNil | refine envCons rfl ?_)) (by repeat (exact envNil)) (by repeat (first | exact subPnil | refine subPcons 0 rfl ?_))
    · dsimp only [List.cons_append, List.nil_append]
      refine AQ.thenN ?_
      have hm : macF w nonce aad plain tag = absorb w x2 plain := by rw [macF, hx2, hx1]
      refine AW.seq ?_
      refine AW.region ?_
      refine AO.op (O.move rfl rfl) rfl rfl rfl ?_
      refine AO.op (O.move rfl rfl) rfl rfl rfl ?_
      (refine AO.callMV1 (i := 0) rfl rfl rfl Try.func63 rfl rfl rfl rfl rfl rfl (hc3) (by (dsimp only [List.set, List.append, List.cons_append, List.nil_append, splice, ofConst, AV.cells, List.map, List.map_cons, List.map_nil, List.take, List.drop, Nat.zero_add, Nat.add_zero, Nat.reduceAdd, Nat.reduceMul, Nat.zero_mul, Value.cells, List.toList_toArray, zerosA, List.replicate, List.flatten, List.append_nil]; done)) ?_)
      (refine AO.store (i := 1) rfl rfl rfl rfl rfl rfl (by exact arB_one _ _) (by exact arB_len _ _) (by exact Nat.ble_eq_true_of_le (Nat.le_of_eq (arB_len _ _).symm)) (by exact splice_arB (arB_len _ _)) (by (dsimp only [List.set, List.append, List.cons_append, List.nil_append, splice, ofConst, AV.cells, List.map, List.map_cons, List.map_nil, List.take, List.drop, Nat.zero_add, Nat.add_zero, Nat.reduceAdd, Nat.reduceMul, Nat.zero_mul, Value.cells, List.toList_toArray, zerosA, List.replicate, List.flatten, List.append_nil]; done)) ?_)
      refine AO.nil ?_
      refine AQ.thenN ?_
      refine AW.ret ?_
      refine AQ.retCell (ys := arB 16 (absorb w x2 plain)) rfl rfl (by repeat (first | exact List.Mem.head _ | refine List.Mem.tail _ ?_)) (List.take_of_length_le (Nat.le_of_eq (arB_len _ _))) (arB_len _ _) ⟨_, List.nil_sublist _, .nil⟩ ⟨by rw [hm], rfl⟩
end Go.Proofs.Ytochjihddnkhcaa.By

namespace Go.Proofs.Ytochjihddnkhcaa.A
open Go.RowKit L
section
variable {Γ : Cx} {P : Program} {E : Env} {H : List HE}
theorem AQ.ret2G {fn : Func} {Post : AV → List HE → Prop} {x y : ResultVar} {p q : AV} {H' : List HE} (hr : fn.results = #[x, y]) (h1 : ResAt Γ P E H x p) (h2 : ResAt Γ P E H y q)
    (hH : ∃ H1, H1.Sublist H ∧ H'.Perm H1) (hp : Post (.tup [p, q]) H') : AQ Γ (FnQ Γ P fn Post) .ret E H := fun R a W hs ha => by
  obtain ⟨H1, k1, k2⟩ := hH
  obtain ⟨u1, e1, g1⟩ := h1 R a W hs ha
  obtain ⟨u2, e2, g2⟩ := h2 R a W hs ha
  refine ⟨ha.defers, .tuple #[u1, u2], ?_, _, _, H', R, rfl, hp, ?_, RelL.toTup (us := [u1, u2]) (RelL.cons g1 (RelL.cons g2 RelL.nil))⟩
  · rw [results_eq, hr]
    simp [e1, e2]
  · have := (hs.sub k1).perm k2
    exact ⟨this.mods, this.rlt, this.rsub, this.rnew, this.ok, this.own, this.disj⟩
end
end Go.Proofs.Ytochjihddnkhcaa.A
namespace Go.Proofs.Ytochjihddnkhcaa.By
open Go.RowKit L A
set_option linter.unusedVariables false
set_option linter.unusedSimpArgs false
attribute [local irreducible] AW AQ AO
theorem cloneR_fn (l : List UInt8) (hl : l.length ≤ 1000000) : Sp Try.prog 58 [roB l] [] (NewRow 5 1 l.length (arB l.length (kf l))) := by
  refine Sp.enter Try.func58 rfl _ Try.ntmps58 rfl (fun w0 R0 => ?_)
  refine AW.seq ?_
  refine AW.region ?_
  refine AO.op (O.assign rfl rfl) rfl rfl rfl ?_
  refine AO.nil ?_
  refine AQ.thenN ?_
  refine AW.seq ?_
  refine AW.seq ?_
  refine AW.region ?_
  refine AO.op (O.move rfl rfl) rfl rfl rfl ?_
  refine AO.opN (O.eqlNil rfl rfl rfl) rfl rfl rfl ?_
  rintro _ _ ⟨c1, rfl, rfl, hnil1⟩
  simp only [List.cons_append, List.nil_append]
  refine AO.nil ?_
  refine AQ.thenN ?_
  refine AW.split rfl (fun h => ?_) (fun h => ?_)
  · skip
    obtain rfl : l = [] := List.eq_nil_of_length_eq_zero (by exact hnil1 (by simp [h]))
    refine AW.seq ?_
    refine AW.region ?_
    refine AO.op (O.assign rfl rfl) rfl rfl rfl ?_
    refine AO.nil ?_
    refine AQ.thenN ?_
    refine AW.ret ?_
    refine AQ.thenR ?_
    refine AQ.g ?_
    refine G.nilRow 5 1 ?_
    refine AQ.u ?_
    refine AQ.ret1 rfl rfl ⟨_, by repeat (first | exact List.Sublist.slnil | refine List.Sublist.cons_cons _ ?_), List.Perm.refl _⟩ (⟨_, rfl, rfl, rfl⟩)
  · skip
    refine AW.skip ?_
    refine AQ.thenN ?_
    refine AW.seq ?_
    refine AW.region ?_
    refine AO.opRow (O.buildSlice0 rfl) rfl rfl rfl ?_
    intro V2 hV2
    refine AO.op (O.move rfl rfl) rfl rfl rfl ?_
    (refine AO.append' (i := 0) rfl rfl rfl rfl (by rfl) (by rfl) rfl rfl rfl (by exact SrcA.ro TyD.ax (by (simp; done)) (Nat.le_of_ble_eq_true rfl)) (by (simp [AV.cells, AV.one, *]; done)) (by (unfold maxLen; omega)) (by omega) (by (dsimp only [List.set, List.append, List.cons_append, List.nil_append, splice, ofConst, AV.cells, List.map, List.map_cons, List.map_nil, List.take, List.drop, Nat.zero_add, Nat.add_zero, Nat.reduceAdd, Nat.reduceMul, Nat.zero_mul, Value.cells, List.toList_toArray, zerosA, List.replicate, List.flatten, List.append_nil]; done)) (fun _ => by (dsimp only [List.set]; done)) ?_)
    intro V3 hV3
    refine AO.op (O.assign rfl rfl) rfl rfl rfl ?_
    refine AO.nil ?_
    refine AQ.thenN ?_
    refine AW.ret ?_
    rw [Nat.zero_add, arB_kf]
    refine AQ.ret1 rfl rfl ⟨_, by repeat (first | exact List.Sublist.slnil | refine List.Sublist.cons_cons _ ?_), List.Perm.refl _⟩ (⟨V3, rfl, hV3, rfl⟩)
def strF (w : Nat → UInt8) (nonce text : List UInt8) (i : Nat) : UInt8 := kf text i ^^^ enc w (blkF (u8 (14 - (nonce.length : Int))) nonce (((i / 16 : Nat) : Int) + 1)) (i % 16)
def strP (w : Nat → UInt8) (nonce text : List UInt8) (k i : Nat) : UInt8 := if i < k then strF w nonce text i else kf text i
def tagF (w : Nat → UInt8) (nonce : List UInt8) (tg : Nat → UInt8) (q : Nat) : UInt8 := tg q ^^^ enc w (blkF (u8 (14 - (nonce.length : Int))) nonce 0) q
theorem strP_zero (w : Nat → UInt8) (nonce text : List UInt8) (i : Nat) : strP w nonce text 0 i = kf text i := if_neg (by omega)
set_option maxHeartbeats 8000000 in
theorem stream_fn (w : Nat → UInt8) (nonce text : List UInt8) (tg : Nat → UInt8) (hn13 : nonce.length ≤ 13) (hp : text.length ≤ 1000000) : Sp Try.prog 47 [.rp (cipA w) 0, roB nonce, roB text, .agg (arB 16 tg)] []
    (fun r Hn => ∃ V : Value, V.oneCell' = true ∧ r = .tup [.val V, .agg (arB 16 (tagF w nonce tg))] ∧ Hn = [.row V 5 1 text.length (arB text.length (strF w nonce text))]) := by
  refine Sp.enter Try.func47 rfl _ Try.ntmps47 rfl (fun w0 R0 => ?_)
  refine AW.seq ?_
  refine AW.region ?_
  refine AO.opB (O.box rfl rfl rfl rfl rfl) rfl rfl rfl ?_
  intro B1
  refine AO.op (O.assign rfl rfl) rfl rfl rfl ?_
  (refine AO.opB (O.alloc rfl (by (dsimp only [List.set, List.append, List.cons_append, List.nil_append, splice, ofConst, AV.cells, List.map, List.map_cons, List.map_nil, List.take, List.drop, Nat.zero_add, Nat.add_zero, Nat.reduceAdd, Nat.reduceMul, Nat.zero_mul, Value.cells, List.toList_toArray, zerosA, List.replicate, List.flatten, List.append_nil]; done)) (by rfl)) rfl rfl rfl ?_)
  intro B2
  refine AO.nil ?_
  refine AQ.thenN ?_
  refine AW.seq ?_
  refine AW.region ?_
  refine AO.op (O.move rfl rfl) rfl rfl rfl ?_
  refine AO.opRow (O.call rfl Try.func58 rfl rfl rfl (cloneR_fn _ hp)) rfl rfl rfl ?_
  intro V3 hV3
  refine AO.op (O.assign rfl rfl) rfl rfl rfl ?_
  refine AO.nil ?_
  refine AQ.thenN ?_
  refine AW.seq ?_
  refine AW.region ?_
  refine AO.op (O.move rfl rfl) rfl rfl rfl ?_
  refine AO.op (O.lenR rfl rfl) rfl rfl rfl ?_
  refine AO.op (O.sub rfl rfl rfl (by exact wI64 (by omega))) rfl rfl rfl ?_
  refine AO.op (O.conv rfl rfl wU8any) rfl rfl rfl ?_
  refine AO.op (O.assign rfl rfl) rfl rfl rfl ?_
  refine AO.nil ?_
  refine AQ.thenN ?_
  refine AW.seq ?_
  refine AW.seq ?_
  refine AW.region ?_
  refine AO.op (O.assign rfl rfl) rfl rfl rfl ?_
  refine AO.nil ?_
  refine AQ.thenN ?_
  refine AW.block ?_
  obtain ⟨n, hn⟩ : ∃ n, n = text.length := ⟨_, rfl⟩
  rw [← hn]
  have e0 : arB n (kf text) = arB n (strP w nonce text 0) := arB_congr fun q _ => (strP_zero w nonce text q).symm
  rw [e0]
  refine AW.loopK [(0, _), (1, _), (7, _), (9, _), (11, _)] (fun nn E H => ∃ (j : Nat) (V : Value), (16 * j < n + 16) ∧ (V.oneCell' = true) ∧ nn = n + 16 - 16 * j ∧ E = [(10, .val V), (12, .val (.int .i64 ((16 * j : Nat) : Int)))] ∧ H = [.row V 5 1 n (arB n (strP w nonce text (16 * j))), .blk B2 55 16 (arB 16 fun _ => 0), .blk B1 55 16 (arB 16 tg)]) _ (⟨0, V3, by omega, hV3, rfl, rfl, rfl⟩) (by repeat (first | exact envNil | refine envCons rfl ?_)) (by repeat (first | exact envNil | refine envCons rfl ?_)) (by repeat (first | exact subPnil | refine subPcons 0 rfl ?_)) ?_
  rintro nn E H ⟨j, V, hj, hV, rfl, rfl, rfl⟩
  dsimp only [List.cons_append, List.nil_append]
  refine AW.seq ?_
  refine AW.seq ?_
  refine AW.region ?_
  refine AO.op (O.move rfl rfl) rfl rfl rfl ?_
  refine AO.op (O.move rfl rfl) rfl rfl rfl ?_
  refine AO.op (O.lenRow rfl rfl (by repeat (exact List.Mem.head _))) rfl rfl rfl ?_
  refine AO.op (O.lss rfl rfl rfl (by rfl)) rfl rfl rfl ?_
  refine AO.nil ?_
  refine AQ.thenN ?_
  refine AW.split rfl (fun h => ?_) (fun h => ?_) <;> (try simp only [decide_eq_true_eq, decide_eq_false_iff_not, beq_iff_eq, beq_eq_false_iff_ne, bne_iff_ne, bne_eq_false_iff_eq, Bool.not_eq_true', Bool.not_eq_false', Bool.not_eq_true, Bool.not_eq_false, ne_eq, Int.not_lt, Int.not_le, Bool.and_eq_true, Bool.or_eq_true, Bool.or_eq_false_iff, Bool.and_eq_false_imp, strOf_toList, Decidable.not_not] at h)
  · skip
    have hj' : 16 * j < n := by omega
    obtain ⟨m, hm⟩ : ∃ m : Nat, m = min n (16 * j + 16) := ⟨_, rfl⟩
    have hmin : (if ((16 * j : Nat) : Int) + 16 < (n : Int) then ((16 * j : Nat) : Int) + 16 else (n : Int)) = (m : Int) := by split <;> omega
    have hq : ((16 * j : Nat) : Int) / 16 + 1 = (j : Int) + 1 := by omega
    refine AW.g ?_
    refine G.openRow 0 rfl (by omega) (fun b' cap hc1 hc2 hxs hVe => ?_)
    refine AW.u ?_
    subst hVe
    dsimp only [List.set]
    refine AW.skip ?_
    refine AQ.thenN ?_
    refine AW.seq ?_
    refine AW.block ?_
    refine AW.seq ?_
    refine AW.region ?_
    refine AO.op (O.move rfl rfl) rfl rfl rfl ?_
    refine AO.op (O.move rfl rfl) rfl rfl rfl ?_
    refine AO.op (O.move rfl rfl) rfl rfl rfl ?_
    refine AO.op (O.move rfl rfl) rfl rfl rfl ?_
    refine AO.op (O.quo rfl rfl rfl (by omega) (quoE ⟨by omega, by omega⟩ (by omega))) rfl rfl rfl ?_
    refine AO.op (O.add rfl rfl rfl (by exact wI64 (by omega))) rfl rfl rfl ?_
    refine AO.op (O.call rfl Try.func59 rfl rfl rfl (block_any _ nonce _ hn13 ⟨by omega, by omega⟩)) rfl rfl rfl ?_
    refine AO.op (O.call rfl Try.func41 rfl rfl rfl (block_fn w _)) rfl rfl rfl ?_
    (refine AO.opB (O.alloc rfl (by (dsimp only [List.set, List.append, List.cons_append, List.nil_append, splice, ofConst, AV.cells, List.map, List.map_cons, List.map_nil, List.take, List.drop, Nat.zero_add, Nat.add_zero, Nat.reduceAdd, Nat.reduceMul, Nat.zero_mul, Value.cells, List.toList_toArray, zerosA, List.replicate, List.flatten, List.append_nil]; done)) (by rfl)) rfl rfl rfl ?_)
    intro B4
    (refine AO.store (i := 0) rfl rfl rfl rfl rfl rfl (by exact arB_one _ _) (by exact arB_len _ _) (by rfl) (by exact splice_arB rfl) (by (dsimp only [List.set, List.append, List.cons_append, List.nil_append, splice, ofConst, AV.cells, List.map, List.map_cons, List.map_nil, List.take, List.drop, Nat.zero_add, Nat.add_zero, Nat.reduceAdd, Nat.reduceMul, Nat.zero_mul, Value.cells, List.toList_toArray, zerosA, List.replicate, List.flatten, List.append_nil]; done)) ?_)
    refine AO.nil ?_
    refine AQ.thenN ?_
    refine AW.seq ?_
    refine AW.region ?_
    refine AO.op (O.move rfl rfl) rfl rfl rfl ?_
    refine AO.op (O.assign rfl rfl) rfl rfl rfl ?_
    refine AO.nil ?_
    refine AQ.thenN ?_
    refine AW.block ?_
    rw [hq]
    obtain ⟨z, hz⟩ : ∃ z, z = enc w (blkF (u8 (14 - (nonce.length : Int))) nonce ((j : Int) + 1)) := ⟨_, rfl⟩
    rw [← hz]
    refine AW.loopK [(0, _), (1, _), (7, _), (9, _), (10, _), (11, _), (12, _), (13, _)] (fun nn E H => ∃ (k : Nat), (16 * j ≤ k ∧ k ≤ m) ∧ nn = m - k ∧ E = [(14, .val (.int .i64 (k : Int)))] ∧ H = [.blk B4 55 16 (arB 16 z), .blk b' 5 (cap * 1) (arB n (strP w nonce text k)), .blk B2 55 16 (arB 16 fun _ => 0), .blk B1 55 16 (arB 16 tg)]) _ (⟨16 * j, by omega, rfl, rfl, rfl⟩) (by repeat (first | exact envNil | refine envCons rfl ?_)) (by repeat (first | exact envNil | refine envCons rfl ?_)) (by repeat (first | exact subPnil | refine subPcons 0 rfl ?_)) ?_
    rintro nn E H ⟨k, hk, rfl, rfl, rfl⟩
    dsimp only [List.cons_append, List.nil_append]
    refine AW.seq ?_
    refine AW.seq ?_
    refine AW.region ?_
    refine AO.op (O.move rfl rfl) rfl rfl rfl ?_
    refine AO.op (O.move rfl rfl) rfl rfl rfl ?_
    refine AO.op (O.lenV rfl rfl) rfl rfl rfl ?_
    refine AO.op (O.move rfl rfl) rfl rfl rfl ?_
    refine AO.op (O.add rfl rfl rfl (by exact wI64 (by omega))) rfl rfl rfl ?_
    refine AO.op (O.minI rfl rfl rfl hmin) rfl rfl rfl ?_
    refine AO.op (O.lss rfl rfl rfl (by rfl)) rfl rfl rfl ?_
    refine AO.nil ?_
    refine AQ.thenN ?_
    refine AW.split rfl (fun h2 => ?_) (fun h2 => ?_) <;> (try simp only [decide_eq_true_eq, decide_eq_false_iff_not, beq_iff_eq, beq_eq_false_iff_ne, bne_iff_ne, bne_eq_false_iff_eq, Bool.not_eq_true', Bool.not_eq_false', Bool.not_eq_true, Bool.not_eq_false, ne_eq, Int.not_lt, Int.not_le, Bool.and_eq_true, Bool.or_eq_true, Bool.or_eq_false_iff, Bool.and_eq_false_imp, strOf_toList, Decidable.not_not] at h2)
    · skip
      have hk' : k < m := by omega
      refine AW.skip ?_
      refine AQ.thenN ?_
      refine AW.seq ?_
      refine AW.block ?_
      refine AW.regionD 11 (by kernel_rfl) (by kernel_rfl) ?_
      simp only [List.take_succ_cons, List.take_zero, List.drop_succ_cons, List.drop_zero]
      refine FA.op (O.move rfl rfl) rfl rfl rfl rfl ?_
      refine FA.op (O.move rfl rfl) rfl rfl rfl rfl ?_
      refine FA.op (O.idxV rfl rfl rfl ⟨(by omega), (by omega)⟩) rfl rfl rfl rfl ?_
      refine FA.op (O.load rfl rfl (by repeat (first | exact List.Mem.head _ | refine List.Mem.tail _ ?_)) (by exact arB_get (k := k) (by omega) (by omega))) rfl rfl rfl rfl ?_
      refine FA.op (O.move rfl rfl) rfl rfl rfl rfl ?_
      refine FA.op (O.move rfl rfl) rfl rfl rfl rfl ?_
      refine FA.op (O.sub rfl rfl rfl (by exact wI64 (by omega))) rfl rfl rfl rfl ?_
      refine FA.op (O.idxL rfl rfl rfl ⟨(by omega), (by omega)⟩) rfl rfl rfl rfl ?_
      refine FA.op (O.load rfl rfl (by repeat (exact List.Mem.head _)) (by exact arB_get (k := k - 16 * j) (by omega) (by omega))) rfl rfl rfl rfl ?_
      refine FA.op (O.xor_ rfl rfl rfl xorU8) rfl rfl rfl rfl ?_
      refine FA.op (O.idxV rfl rfl rfl ⟨(by omega), (by omega)⟩) rfl rfl rfl rfl ?_
      refine FA.nil ?_
      simp only [chosen, List.nil_append, List.cons_append, List.append_nil]
      (refine AO.store (i := 1) rfl rfl rfl rfl rfl rfl (by rfl) (by rfl) (by exact Nat.ble_eq_true_of_le (by rw [arB_len]; omega)) (by exact arB_set (k := k) (by omega) _ (by omega)) (by (dsimp only [List.set, List.append, List.cons_append, List.nil_append, splice, ofConst, AV.cells, List.map, List.map_cons, List.map_nil, List.take, List.drop, Nat.zero_add, Nat.add_zero, Nat.reduceAdd, Nat.reduceMul, Nat.zero_mul, Value.cells, List.toList_toArray, zerosA, List.replicate, List.flatten, List.append_nil]; done)) ?_)
      refine AO.nil ?_
      refine AQ.blockN ?_
      refine AQ.thenN ?_
      refine AW.region ?_
      refine AO.op (O.move rfl rfl) rfl rfl rfl ?_
      refine AO.op (O.add rfl rfl rfl (by exact wI64 (by omega))) rfl rfl rfl ?_
      refine AO.op (O.assign rfl rfl) rfl rfl rfl ?_
      refine AO.nil ?_
      have e1 : arB n (fun q => if q = k then strP w nonce text k k ^^^ z (k - 16 * j) else strP w nonce text k q) = arB n (strP w nonce text (k + 1)) := arB_congr fun q _ => by
        unfold strP
        rcases Nat.lt_trichotomy q k with h1 | h1 | h1
        · rw [if_neg (by omega), if_pos h1, if_pos (by omega)]
        · rw [if_pos h1, if_neg (by omega), if_pos (by omega), h1, strF, hz, show k / 16 = j by omega, show k % 16 = k - 16 * j by omega]
        · rw [if_neg (by omega), if_neg (by omega), if_neg (by omega)]
      rw [e1]
      refine AQ.loopKN _ _ _ (by omega) (⟨k + 1, by omega, rfl, rfl, rfl⟩) (by repeat (first | exact envNil | refine envCons rfl ?_)) (by repeat (first | exact envNil | refine envCons rfl ?_)) (by repeat (first | exact subPnil | refine subPcons 0 rfl ?_))
    · skip
      obtain rfl : k = m := by omega
      refine AW.exit ?_
      refine AQ.thenX ?_
      refine AQ.loopX ?_
      refine AQ.blockX rfl ?_
      refine AQ.blockN ?_
      refine AQ.thenN ?_
      refine AW.region ?_
      refine AO.op (O.move rfl rfl) rfl rfl rfl ?_
      refine AO.op (O.add rfl rfl rfl (by exact wI64 (by omega))) rfl rfl rfl ?_
      refine AO.op (O.assign rfl rfl) rfl rfl rfl ?_
      refine AO.nil ?_
      have e1 : arB n (strP w nonce text k) = arB n (strP w nonce text (16 * (j + 1))) := arB_congr fun q hq => by
        unfold strP
        by_cases h1 : q < k
        · rw [if_pos h1, if_pos (by omega)]
        · rw [if_neg h1, if_neg (by omega)]
      rw [e1]
      refine AQ.g ?_
      refine G.closeRow (b := b') 1 rfl (by rw [arB_len, Nat.mul_one]) rfl hc1 hc2 ?_
      refine AQ.u ?_
      dsimp only [List.set]
      have e2 : ((16 * j : Nat) : Int) + 16 = ((16 * (j + 1) : Nat) : Int) := by omega
      rw [e2]
      refine AQ.loopKN _ _ _ (by omega) (⟨j + 1, _, by omega, hV, rfl, rfl, rfl⟩) (by repeat (first | exact envNil | refine envCons rfl ?_)) (by repeat (first | exact envNil | refine envCons rfl ?_)) (by repeat (first | exact subPnil | refine subPcons 1 rfl ?_))
  · skip
    have e1 : arB n (strP w nonce text (16 * j)) = arB n (strF w nonce text) := arB_congr fun q hq => if_pos (by omega)
    rw [e1]
    refine AW.exit ?_
    refine AQ.thenX ?_
    refine AQ.loopX ?_
    refine AQ.blockX rfl ?_
    refine AQ.thenN ?_
    refine AW.seq ?_
    refine AW.region ?_
    refine AO.op (O.move rfl rfl) rfl rfl rfl ?_
    refine AO.op (O.move rfl rfl) rfl rfl rfl ?_
    refine AO.op (O.move rfl rfl) rfl rfl rfl ?_
    refine AO.op (O.call rfl Try.func59 rfl rfl rfl (block_any _ nonce _ hn13 ⟨by omega, by omega⟩)) rfl rfl rfl ?_
    refine AO.op (O.call rfl Try.func41 rfl rfl rfl (block_fn w _)) rfl rfl rfl ?_
    (refine AO.opB (O.alloc rfl (by (dsimp only [List.set, List.append, List.cons_append, List.nil_append, splice, ofConst, AV.cells, List.map, List.map_cons, List.map_nil, List.take, List.drop, Nat.zero_add, Nat.add_zero, Nat.reduceAdd, Nat.reduceMul, Nat.zero_mul, Value.cells, List.toList_toArray, zerosA, List.replicate, List.flatten, List.append_nil]; done)) (by rfl)) rfl rfl rfl ?_)
    intro B5
    (refine AO.store (i := 0) rfl rfl rfl rfl rfl rfl (by exact arB_one _ _) (by exact arB_len _ _) (by rfl) (by exact splice_arB rfl) (by (dsimp only [List.set, List.append, List.cons_append, List.nil_append, splice, ofConst, AV.cells, List.map, List.map_cons, List.map_nil, List.take, List.drop, Nat.zero_add, Nat.add_zero, Nat.reduceAdd, Nat.reduceMul, Nat.zero_mul, Value.cells, List.toList_toArray, zerosA, List.replicate, List.flatten, List.append_nil]; done)) ?_)
    refine AO.nil ?_
    refine AQ.thenN ?_
    refine AW.seq ?_
    refine AW.seq ?_
    refine AW.region ?_
    refine AO.op (O.move rfl rfl) rfl rfl rfl ?_
    refine AO.nil ?_
    refine AQ.thenN ?_
    refine AW.block ?_
    have e2 : arB 16 tg = arB 16 (fun q => if q < 0 then tagF w nonce tg q else tg q) := arB_congr fun q _ => (if_neg (by omega)).symm
    rw [e2]
    obtain ⟨z, hz⟩ : ∃ z, z = enc w (blkF (u8 (14 - (nonce.length : Int))) nonce 0) := ⟨_, rfl⟩
    rw [← hz]
    refine AW.loopK [(7, _), (9, _), (10, _), (15, _)] (fun nn E H => ∃ (i : Nat), (i ≤ 16) ∧ nn = 16 - i ∧ E = [(63, .val (.int .i64 (i : Int)))] ∧ H = [.blk B5 55 16 (arB 16 z), .row V 5 1 n (arB n (strF w nonce text)), .blk B2 55 16 (arB 16 fun _ => 0), .blk B1 55 16 (arB 16 (fun q => if q < i then tagF w nonce tg q else tg q))]) _ (⟨0, by omega, rfl, rfl, rfl⟩) (by repeat (first | exact envNil | refine envCons rfl ?_)) (by repeat (first | exact envNil | refine envCons rfl ?_)) (by repeat (first | exact subPnil | refine subPcons 0 rfl ?_)) ?_
    rintro nn E H ⟨i, hi, rfl, rfl, rfl⟩
    dsimp only [List.cons_append, List.nil_append]
    refine AW.seq ?_
    refine AW.region ?_
    refine AO.op (O.lss rfl rfl rfl (by rfl)) rfl rfl rfl ?_
    refine AO.nil ?_
    refine AQ.thenN ?_
    refine AW.seq ?_
    refine AW.split rfl (fun h3 => ?_) (fun h3 => ?_) <;> (try simp only [decide_eq_true_eq, decide_eq_false_iff_not, beq_iff_eq, beq_eq_false_iff_ne, bne_iff_ne, bne_eq_false_iff_eq, Bool.not_eq_true', Bool.not_eq_false', Bool.not_eq_true, Bool.not_eq_false, ne_eq, Int.not_lt, Int.not_le, Bool.and_eq_true, Bool.or_eq_true, Bool.or_eq_false_iff, Bool.and_eq_false_imp, strOf_toList, Decidable.not_not] at h3)
    · skip
      have hi' : i < 16 := by omega
      refine AW.skip ?_
      refine AQ.thenN ?_
      refine AW.seq ?_
      refine AW.block ?_
      refine AW.seq ?_
      refine AW.region ?_
      refine AO.op (O.move rfl rfl) rfl rfl rfl ?_
      refine AO.op (O.assign rfl rfl) rfl rfl rfl ?_
      refine AO.nil ?_
      refine AQ.thenN ?_
      refine AW.regionD 8 (by kernel_rfl) (by kernel_rfl) ?_
      simp only [List.take_succ_cons, List.take_zero, List.drop_succ_cons, List.drop_zero]
      refine FA.op (O.move rfl rfl) rfl rfl rfl rfl ?_
      refine FA.op (O.idxL rfl rfl rfl ⟨(by omega), (by omega)⟩) rfl rfl rfl rfl ?_
      refine FA.op (O.load rfl rfl (by repeat (first | exact List.Mem.head _ | refine List.Mem.tail _ ?_)) (by exact arB_get (k := i) (by omega) (by omega))) rfl rfl rfl rfl ?_
      refine FA.op (O.move rfl rfl) rfl rfl rfl rfl ?_
      refine FA.op (O.idxL rfl rfl rfl ⟨(by omega), (by omega)⟩) rfl rfl rfl rfl ?_
      refine FA.op (O.load rfl rfl (by repeat (exact List.Mem.head _)) (by exact arB_get (k := i) (by omega) (by omega))) rfl rfl rfl rfl ?_
      refine FA.op (O.xor_ rfl rfl rfl xorU8) rfl rfl rfl rfl ?_
      refine FA.op (O.idxL rfl rfl rfl ⟨(by omega), (by omega)⟩) rfl rfl rfl rfl ?_
      refine FA.nil ?_
      simp only [chosen, List.nil_append, List.cons_append, List.append_nil]
      (refine AO.store (i := 3) rfl rfl rfl rfl rfl rfl (by rfl) (by rfl) (by exact Nat.ble_eq_true_of_le (by rw [arB_len]; omega)) (by exact arB_set (k := i) (by omega) _ (by omega)) (by (dsimp only [List.set, List.append, List.cons_append, List.nil_append, splice, ofConst, AV.cells, List.map, List.map_cons, List.map_nil, List.take, List.drop, Nat.zero_add, Nat.add_zero, Nat.reduceAdd, Nat.reduceMul, Nat.zero_mul, Value.cells, List.toList_toArray, zerosA, List.replicate, List.flatten, List.append_nil]; done)) ?_)
      refine AO.nil ?_
      refine AQ.blockN ?_
      refine AQ.thenN ?_
      refine AW.region ?_
      refine AO.op (O.add rfl rfl rfl (by exact wI64 (by omega))) rfl rfl rfl ?_
      refine AO.op (O.move rfl rfl) rfl rfl rfl ?_
      refine AO.nil ?_
      have e3 : arB 16 (fun q => if q = i then (if i < i then tagF w nonce tg i else tg i) ^^^ z i else if q < i then tagF w nonce tg q else tg q) = arB 16 (fun q => if q < i + 1 then tagF w nonce tg q else tg q) := arB_congr fun q _ => by
        rcases Nat.lt_trichotomy q i with h1 | h1 | h1
        · rw [if_neg (by omega), if_pos h1, if_pos (by omega)]
        · rw [if_pos h1, if_neg (by omega), if_pos (by omega), h1, tagF, hz]
        · rw [if_neg (by omega), if_neg (by omega), if_neg (by omega)]
      rw [e3]
      refine AQ.loopKN _ _ _ (by omega) (⟨i + 1, by omega, rfl, rfl, rfl⟩) (by repeat (first | exact envNil | refine envCons rfl ?_)) (by repeat (first | exact envNil | refine envCons rfl ?_)) (by repeat (first | exact subPnil | refine subPcons 0 rfl ?_))
    · skip
      obtain rfl : i = 16 := by omega
      have e3 : arB 16 (fun q => if q < 16 then tagF w nonce tg q else tg q) = arB 16 (tagF w nonce tg) := arB_congr fun q hq => if_pos hq
      rw [e3]
      refine AW.exit ?_
      refine AQ.thenX ?_
      refine AQ.loopX ?_
      refine AQ.blockX rfl ?_
      refine AQ.thenN ?_
      refine AW.seq ?_
      refine AW.regionD 3 (by kernel_rfl) (by kernel_rfl) ?_
      simp only [List.take_succ_cons, List.take_zero, List.drop_succ_cons, List.drop_zero]
      refine FA.op (O.move rfl rfl) rfl rfl rfl rfl ?_
      refine FA.op (O.loadK rfl rfl (by repeat (first | exact List.Mem.head _ | refine List.Mem.tail _ ?_)) (by exact arFull _) (by exact arB_len _ _)) rfl rfl rfl rfl ?_
      refine FA.op (O.assign rfl rfl) rfl rfl rfl rfl ?_
      refine FA.nil ?_
      simp only [chosen, List.nil_append, List.cons_append, List.append_nil]
      (refine AO.store (i := 2) rfl rfl rfl rfl rfl rfl (by exact arB_one _ _) (by exact arB_len _ _) (by exact Nat.ble_eq_true_of_le (Nat.le_of_eq (arB_len _ _).symm)) (by exact splice_arB rfl) (by (dsimp only [List.set, List.append, List.cons_append, List.nil_append, splice, ofConst, AV.cells, List.map, List.map_cons, List.map_nil, List.take, List.drop, Nat.zero_add, Nat.add_zero, Nat.reduceAdd, Nat.reduceMul, Nat.zero_mul, Value.cells, List.toList_toArray, zerosA, List.replicate, List.flatten, List.append_nil]; done)) ?_)
      refine AO.nil ?_
      refine AQ.thenN ?_
      refine AW.ret ?_
      rw [hn]
      refine AQ.ret2G rfl (ResAt.tmp rfl) (ResAt.cell (ys := arB 16 (tagF w nonce tg)) rfl (by repeat (first | exact List.Mem.head _ | refine List.Mem.tail _ ?_)) (List.take_of_length_le (Nat.le_of_eq (arB_len _ _))) (arB_len _ _)) ⟨_, List.Sublist.cons _ (List.Sublist.cons_cons _ (List.nil_sublist _)), .refl _⟩ ⟨V, hV, rfl, rfl⟩
end Go.Proofs.Ytochjihddnkhcaa.By

namespace Go.Proofs.Ytochjihddnkhcaa.By
open Go.RowKit L A
set_option linter.unusedVariables false
set_option linter.unusedSimpArgs false
attribute [local irreducible] AW AQ AO
end Go.Proofs.Ytochjihddnkhcaa.By

namespace Go.Proofs.Ytochjihddnkhcaa.By
open Go.RowKit L A
set_option linter.unusedVariables false
set_option linter.unusedSimpArgs false
attribute [local irreducible] AW AQ AO
def prB (p : List UInt8 × List UInt8) : List AV := [roB p.1, roB p.2]
end Go.Proofs.Ytochjihddnkhcaa.By

namespace Go.Proofs.Ytochjihddnkhcaa.By
open Go.RowKit L A
set_option linter.unusedVariables false
set_option linter.unusedSimpArgs false
attribute [local irreducible] AW AQ AO
attribute [local simp] arB_len
abbrev wK (key : List UInt8) : Nat → UInt8 := wS (kf key)
def sealOk (aad plain : List UInt8) : Bool := decide ((aad.length : Int) ≤ 4096) && decide ((plain.length : Int) ≤ 4096)
def sealL (key nonce aad plain : List UInt8) (tag : Int) : List UInt8 :=
  if cvB key nonce tag && sealOk aad plain then fnB plain.length (strF (wK key) nonce plain) ++ fnB tag.toNat (tagF (wK key) nonce (macF (wK key) nonce aad plain tag)) else []
def sealE (key nonce aad plain : List UInt8) (tag : Int) : Int :=
  if cvB key nonce tag then (if sealOk aad plain then 0 else 8) else 1
theorem seal_bad {key nonce aad plain : List UInt8} {tag : Int} (h : cvB key nonce tag = false) : sealL key nonce aad plain tag = [] ∧ sealE key nonce aad plain tag = 1 := by
  simp [sealL, sealE, h]
theorem seal_long {key nonce aad plain : List UInt8} {tag : Int} (h : cvB key nonce tag = true) (h2 : sealOk aad plain = false) : sealL key nonce aad plain tag = [] ∧ sealE key nonce aad plain tag = 8 := by
  simp [sealL, sealE, h, h2]
theorem seal_good {key nonce aad plain : List UInt8} {tag : Int} (h : cvB key nonce tag = true) (h2 : sealOk aad plain = true) : sealL key nonce aad plain tag = fnB plain.length (strF (wK key) nonce plain) ++ fnB tag.toNat (tagF (wK key) nonce (macF (wK key) nonce aad plain tag)) ∧ sealE key nonce aad plain tag = 0 := by
  simp [sealL, sealE, h, h2]
theorem arPre {T : Nat} (h : T ≤ 16) (f : Nat → UInt8) : ((arB 16 f).drop (0 + 0 * 1)).take ((T - 0) * 1) = arB T f := by
  rw [show (T - 0) * 1 = T by omega]
  have := arB_dt (n := 16) (f := f) (j := 0 + 0 * 1) (k := T) (by omega)
  rw [this]
  exact arB_congr fun q _ => by rw [show 0 + 0 * 1 + q = q by omega]
theorem roB_app2 (n T : Nat) (f g : Nat → UInt8) : AV.ro false (n + (T - 0)) (arB n f ++ arB T g) = roB (fnB n f ++ fnB T g) := by
  unfold roB
  rw [List.length_append, fnB_len, fnB_len, Nat.sub_zero]
  show _ = AV.ro false (n + T) (bytesA (fnB n f ++ fnB T g))
  rw [bytesA, List.map_append]; rfl
set_option maxHeartbeats 4000000 in
theorem seal_fn (key nonce aad plain : List UInt8) (tag : Int) (ha : aad.length ≤ 1000000) (hp : plain.length ≤ 1000000) : Sp Try.prog 31 [roB key, roB nonce, roB aad, roB plain, .val (.int .i64 tag)] [] (Is (.tup [roB (sealL key nonce aad plain tag), .val (.int .i64 (sealE key nonce aad plain tag))])) := by
  refine Sp.enter Try.func31 rfl _ Try.ntmps31 rfl (fun w0 R0 => ?_)
  refine AW.seq ?_
  refine AW.region ?_
  refine AO.op (O.assign rfl rfl) rfl rfl rfl ?_
  refine AO.op (O.assign rfl rfl) rfl rfl rfl ?_
  refine AO.nil ?_
  refine AQ.thenN ?_
  refine AW.seq ?_
  refine AW.block ?_
  refine AW.seq ?_
  refine AW.region ?_
  refine AO.op (O.move rfl rfl) rfl rfl rfl ?_
  refine AO.op (O.move rfl rfl) rfl rfl rfl ?_
  refine AO.op (O.move rfl rfl) rfl rfl rfl ?_
  refine AO.op (O.call rfl Try.func26 rfl rfl rfl (cvalid_fn key nonce _)) rfl rfl rfl ?_
  refine AO.op (O.not rfl rfl (by rfl)) rfl rfl rfl ?_
  refine AO.op (O.assign rfl rfl) rfl rfl rfl ?_
  refine AO.nil ?_
  refine AQ.thenN ?_
  refine AW.split rfl (fun h => ?_) (fun h => ?_) <;> (try simp only [decide_eq_true_eq, decide_eq_false_iff_not, beq_iff_eq, beq_eq_false_iff_ne, bne_iff_ne, bne_eq_false_iff_eq, Bool.not_eq_true', Bool.not_eq_false', Bool.not_eq_true, Bool.not_eq_false, ne_eq, Int.not_lt, Int.not_le, Bool.and_eq_true, Bool.or_eq_true, Bool.or_eq_false_iff, Bool.and_eq_false_imp, strOf_toList, Decidable.not_not] at h)
  · skip
    have hb : cvB key nonce tag = false := by simpa using h
    obtain ⟨e1, e2⟩ := seal_bad (aad := aad) (plain := plain) hb
    rw [e1, e2]
    refine AW.seq ?_
    refine AW.region ?_
    refine AO.op (O.assign rfl rfl) rfl rfl rfl ?_
    refine AO.op (O.assign rfl rfl) rfl rfl rfl ?_
    refine AO.nil ?_
    refine AQ.thenN ?_
    refine AW.ret ?_
    refine AQ.blockR ?_
    refine AQ.thenR ?_
    refine FnQ.coe (AQ.ret2 rfl rfl rfl ⟨_, List.nil_sublist _, .nil⟩ ⟨rfl, rfl⟩) (Coe.tup (by (repeat (first | exact CoeL.nil | refine CoeL.cons Coe.rfl ?_ | refine CoeL.cons Coe.nil ?_)); done)) (⟨rfl, rfl⟩)
  · skip
    obtain ⟨hk, hn7, hn13, ht4, ht16, ht2⟩ := cvB_bd h
    refine AW.seq ?_
    refine AW.region ?_
    refine AO.op (O.move rfl rfl) rfl rfl rfl ?_
    refine AO.op (O.lenR rfl rfl) rfl rfl rfl ?_
    refine AO.op (O.gtr rfl rfl rfl (by rfl)) rfl rfl rfl ?_
    refine AO.op (O.move rfl rfl) rfl rfl rfl ?_
    refine AO.opG rfl rfl rfl (fun hp => O.move rfl rfl) ?_
    refine AO.opG rfl rfl rfl (fun hp => OpW.force 26 rfl (by exact hp) (O.lenR rfl rfl)) ?_
    refine AO.opG rfl rfl rfl (fun hp => OpW.force 27 rfl (by exact hp) (O.gtr rfl rfl rfl (by rfl))) ?_
    refine AO.op (O.pickOr rfl rfl rfl rfl (fun h => by exact congrArg (fun b => !b) h)) rfl rfl rfl ?_
    refine AO.op (O.assign rfl rfl) rfl rfl rfl ?_
    refine AO.nil ?_
    refine AQ.thenN ?_
    refine AW.split rfl (fun h2 => ?_) (fun h2 => ?_) <;> (try simp only [decide_eq_true_eq, decide_eq_false_iff_not, beq_iff_eq, beq_eq_false_iff_ne, bne_iff_ne, bne_eq_false_iff_eq, Bool.not_eq_true', Bool.not_eq_false', Bool.not_eq_true, Bool.not_eq_false, ne_eq, Int.not_lt, Int.not_le, Bool.and_eq_true, Bool.or_eq_true, Bool.or_eq_false_iff, Bool.and_eq_false_imp, strOf_toList, Decidable.not_not] at h2)
    · skip
      have hb : sealOk aad plain = false := by
        simp only [sealOk, Bool.and_eq_false_iff, decide_eq_false_iff_not]
        omega
      obtain ⟨e1, e2⟩ := seal_long h hb
      rw [e1, e2]
      refine AW.seq ?_
      refine AW.region ?_
      refine AO.op (O.assign rfl rfl) rfl rfl rfl ?_
      refine AO.op (O.assign rfl rfl) rfl rfl rfl ?_
      refine AO.nil ?_
      refine AQ.thenN ?_
      refine AW.ret ?_
      refine AQ.blockR ?_
      refine AQ.thenR ?_
      refine FnQ.coe (AQ.ret2 rfl rfl rfl ⟨_, List.nil_sublist _, .nil⟩ ⟨rfl, rfl⟩) (Coe.tup (by (repeat (first | exact CoeL.nil | refine CoeL.cons Coe.rfl ?_ | refine CoeL.cons Coe.nil ?_)); done)) (⟨rfl, rfl⟩)
    · skip
      have hb : sealOk aad plain = true := by
        simp only [sealOk, Bool.and_eq_true, decide_eq_true_eq]
        omega
      obtain ⟨e1, e2⟩ := seal_good h hb
      rw [e1, e2]
      obtain ⟨T, hT⟩ : ∃ T : Nat, T = tag.toNat := ⟨_, rfl⟩
      rw [← hT]
      have hT' : tag = (T : Int) := by omega
      have ha' : aad.length ≤ 10000 := by omega
      have hp' : plain.length ≤ 10000 := by omega
      refine AW.g ?_
      refine G.re 0 (.ro false 16 (arB 16 (kf key))) (congrArg some (roB_kf hk)) ?_
      refine AW.u ?_
      refine AW.skip ?_
      refine AQ.blockN ?_
      refine AQ.thenN ?_
      refine AW.seq ?_
      refine AW.region ?_
      refine AO.op (O.move rfl rfl) rfl rfl rfl ?_
      refine AO.opB (O.call rfl Try.func40 rfl rfl rfl (aesnew_fn _)) rfl rfl rfl ?_
      intro B1
      refine AO.op (O.assign rfl rfl) rfl rfl rfl ?_
      refine AO.g ?_
      refine G.freezePtr 0 12 rfl rfl ?_
      refine AO.u ?_
      dsimp only [List.eraseIdx]
      refine AO.nil ?_
      refine AQ.thenN ?_
      refine AW.seq ?_
      refine AW.region ?_
      refine AO.op (O.move rfl rfl) rfl rfl rfl ?_
      refine AO.op (O.move rfl rfl) rfl rfl rfl ?_
      refine AO.op (O.move rfl rfl) rfl rfl rfl ?_
      refine AO.op (O.move rfl rfl) rfl rfl rfl ?_
      refine AO.op (O.move rfl rfl) rfl rfl rfl ?_
      refine AO.op (O.move rfl rfl) rfl rfl rfl ?_
      refine AO.op (O.move rfl rfl) rfl rfl rfl ?_
      refine AO.op (O.move rfl rfl) rfl rfl rfl ?_
      refine AO.op (O.call rfl Try.func48 rfl rfl rfl (auth_fn _ nonce aad plain tag hn13 ⟨ht4, ht16⟩ ha' hp')) rfl rfl rfl ?_
      refine AO.opN (O.call rfl Try.func47 rfl rfl rfl (stream_fn _ nonce plain _ hn13 (by omega))) rfl rfl rfl ?_
      rintro _ _ ⟨V442, hV442, rfl, rfl⟩
      simp only [List.cons_append, List.nil_append]
      refine AO.op (O.move rfl rfl) rfl rfl rfl ?_
      refine AO.op (O.extract rfl rfl rfl) rfl rfl rfl ?_
      refine AO.op (O.extract rfl rfl rfl) rfl rfl rfl ?_
      (refine AO.opB (O.alloc rfl (by (dsimp only [List.set, List.append, List.cons_append, List.nil_append, splice, ofConst, AV.cells, List.map, List.map_cons, List.map_nil, List.take, List.drop, Nat.zero_add, Nat.add_zero, Nat.reduceAdd, Nat.reduceMul, Nat.zero_mul, Value.cells, List.toList_toArray, zerosA, List.replicate, List.flatten, List.append_nil]; done)) (by rfl)) rfl rfl rfl ?_)
      intro B3
      refine AO.op (O.assign rfl rfl) rfl rfl rfl ?_
      (refine AO.store (i := 0) rfl rfl rfl rfl rfl rfl (by exact arB_one _ _) (by exact arB_len _ _) (by rfl) (by exact splice_arB rfl) (by (dsimp only [List.set, List.append, List.cons_append, List.nil_append, splice, ofConst, AV.cells, List.map, List.map_cons, List.map_nil, List.take, List.drop, Nat.zero_add, Nat.add_zero, Nat.reduceAdd, Nat.reduceMul, Nat.zero_mul, Value.cells, List.toList_toArray, zerosA, List.replicate, List.flatten, List.append_nil]; done)) ?_)
      refine AO.g ?_
      refine G.freezePtr 0 14 rfl rfl ?_
      refine AO.u ?_
      dsimp only [List.eraseIdx]
      refine AO.nil ?_
      refine AQ.thenN ?_
      refine AW.seq ?_
      refine AW.region ?_
      refine AO.op (O.move rfl rfl) rfl rfl rfl ?_
      refine AO.op (O.move rfl rfl) rfl rfl rfl ?_
      (refine AO.op (O.sliceArrRK (p := 0) (q := T) rfl rfl rfl rfl (by rfl) (by omega) ⟨by omega, by omega⟩ (by omega) (by (unfold maxLen; omega)) (by exact arPre (by omega) _)) rfl rfl rfl ?_)
      (refine AO.append' (i := 0) rfl rfl rfl rfl (by rfl) (by rfl) rfl rfl rfl (by exact SrcA.ro TyD.ax (by (simp; done)) (Nat.le_of_ble_eq_true rfl)) (by exact arB_one _ _) (by (unfold maxLen; omega)) (by omega) (by (dsimp only [List.set, List.append, List.cons_append, List.nil_append, splice, ofConst, AV.cells, List.map, List.map_cons, List.map_nil, List.take, List.drop, Nat.zero_add, Nat.add_zero, Nat.reduceAdd, Nat.reduceMul, Nat.zero_mul, Value.cells, List.toList_toArray, zerosA, List.replicate, List.flatten, List.append_nil]; done)) (fun _ => by (dsimp only [List.set]; done)) ?_)
      intro V4 hV4
      refine AO.g ?_
      refine G.freezeRow 0 rfl [48] (by repeat (first | exact frNil | refine frCons rfl ?_)) ?_
      refine AO.u ?_
      dsimp only [List.map, List.eraseIdx, List.cons_append, List.nil_append]
      refine AO.op (O.assign rfl rfl) rfl rfl rfl ?_
      refine AO.op (O.assign rfl rfl) rfl rfl rfl ?_
      refine AO.nil ?_
      refine AQ.thenN ?_
      refine AW.ret ?_
      refine AQ.g ?_
      refine G.re 10 (roB (fnB plain.length (strF (wK key) nonce plain) ++ fnB T (tagF (wK key) nonce (macF (wK key) nonce aad plain tag)))) (congrArg some (roB_app2 _ T _ _)) ?_
      refine AQ.u ?_
      refine FnQ.coe (AQ.ret2 rfl rfl rfl ⟨_, List.nil_sublist _, .nil⟩ ⟨rfl, rfl⟩) (Coe.tup (by (repeat (first | exact CoeL.nil | refine CoeL.cons Coe.rfl ?_)); done)) (⟨rfl, rfl⟩)
end Go.Proofs.Ytochjihddnkhcaa.By
