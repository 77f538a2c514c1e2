/-
  Layer 15: messages that are light; messages with a field changed.
-/
import Derived.Test.YtiddmpmpjdnmeaaPe
import Derived.Test.YtiddmpmpjdnmeaaPc
import Derived.Test.YtiddmpmpjdnmeaaSz
namespace Go.Proofs.Ytiddmpmpjdnmeaa.By
open Go.RowKit L A
set_option linter.unusedVariables false
set_option linter.unusedSimpArgs false
attribute [local irreducible] AW AQ AO
def msgsA (ms : List Msg) : List AV := ms.flatMap cellsM
def roMs (ms : List Msg) : AV := .ro false ms.length (msgsA ms)
abbrev mat (ms : List Msg) (k : Nat) : Msg := ms.getD k Msg.none
theorem getMs {ms : List Msg} {k : Nat} (h : k < ms.length) {j : Nat} (hj : j = k) : ((msgsA ms).drop (j * 6)).take 6 = cellsM (mat ms k) := flat_at cellsM_len Msg.none h hj
theorem at3 {α : Type} {a b c d : α} {k : Nat} (h : k < 3) {P : α → Prop} (ha : P a) (hb : P b) (hc : P c) : P ([a, b, c].getD k d) := by
  rcases (show k = 0 ∨ k = 1 ∨ k = 2 by omega) with rfl | rfl | rfl <;> assumption
instance (m : Msg) : Decidable (LightM m) := by unfold LightM; infer_instance
theorem light_fn (m : Msg) (hp : m.pay.length ≤ maxLen) : Sp Try.prog 24 [aggM m] [] (Is (.val (.bool (decide (LightM m))))) := by
  refine Sp.enter Try.func24 rfl _ Try.ntmps24 rfl (fun w0 R0 => ?_)
  refine AW.seq ?_
  refine AW.region ?_
  refine AO.opB (O.box rfl rfl rfl rfl rfl) rfl rfl rfl ?_
  intro B1
  refine AO.op (O.assign rfl rfl) rfl rfl rfl ?_
  refine AO.nil ?_
  refine AQ.thenN ?_
  refine AW.seq ?_
  refine AW.seq ?_
  refine AW.region ?_
  refine AO.op (O.fieldAddr rfl rfl) rfl rfl rfl ?_
  refine AO.op (O.load rfl rfl (by repeat (exact List.Mem.head _)) (by rfl)) rfl rfl rfl ?_
  refine AO.op (O.lenR rfl rfl) rfl rfl rfl ?_
  refine AO.op (O.gtr rfl rfl rfl (by rfl)) rfl rfl rfl ?_
  refine AO.op (O.move rfl rfl) rfl rfl rfl ?_
  refine AO.opG rfl rfl rfl (fun hp => O.fieldAddr rfl rfl) ?_
  refine AO.opG rfl rfl rfl (fun hp => OpW.force 10 rfl (by exact hp) (O.load rfl rfl (by repeat (exact List.Mem.head _)) (by rfl))) ?_
  refine AO.opG rfl rfl rfl (fun hp => OpW.force 11 rfl (by exact hp) (O.lenR rfl rfl)) ?_
  refine AO.opG rfl rfl rfl (fun hp => OpW.force 12 rfl (by exact hp) (O.gtr rfl rfl rfl (by rfl))) ?_
  refine AO.op (O.pickOr rfl rfl rfl rfl (fun h => by exact congrArg (fun b => !b) h)) rfl rfl rfl ?_
  refine AO.op (O.move rfl rfl) rfl rfl rfl ?_
  refine AO.opG rfl rfl rfl (fun hp => O.fieldAddr rfl rfl) ?_
  refine AO.opG rfl rfl rfl (fun hp => OpW.force 16 rfl (by exact hp) (O.load rfl rfl (by repeat (exact List.Mem.head _)) (by rfl))) ?_
  refine AO.opG rfl rfl rfl (fun hp => OpW.force 17 rfl (by exact hp) (O.lenR rfl rfl)) ?_
  refine AO.opG rfl rfl rfl (fun hp => OpW.force 18 rfl (by exact hp) (O.gtr rfl rfl rfl (by rfl))) ?_
  refine AO.op (O.pickOr rfl rfl rfl rfl (fun h => by exact congrArg (fun b => !b) h)) rfl rfl rfl ?_
  refine AO.nil ?_
  refine AQ.thenN ?_
  refine AW.split rfl (fun h => ?_) (fun h => ?_) <;> (try simp only [decide_eq_true_eq, decide_eq_false_iff_not, beq_iff_eq, beq_eq_false_iff_ne, bne_iff_ne, bne_eq_false_iff_eq, Bool.not_eq_true', Bool.not_eq_false', Bool.not_eq_true, Bool.not_eq_false, ne_eq, Int.not_lt, Int.not_le, Bool.and_eq_true, Bool.or_eq_true, Bool.or_eq_false_iff, Bool.and_eq_false_imp, strOf_toList, Decidable.not_not] at h)
  · skip
    have e : decide (LightM m) = false := decide_eq_false fun hl => by have := hl.1; omega
    refine AW.seq ?_
    refine AW.region ?_
    refine AO.op (O.assign rfl rfl) rfl rfl rfl ?_
    refine AO.nil ?_
    refine AQ.thenN ?_
    refine AW.ret ?_
    refine AQ.thenR ?_
    refine AQ.ret1 rfl rfl ⟨_, List.nil_sublist _, .nil⟩ (⟨by rw [e]; rfl, rfl⟩)
  · skip
    refine AW.skip ?_
    refine AQ.thenN ?_
    refine AW.seq ?_
    refine AW.seq ?_
    refine AW.region ?_
    refine AO.op (O.fieldAddr rfl rfl) rfl rfl rfl ?_
    refine AO.op (O.load rfl rfl (by repeat (exact List.Mem.head _)) (by rfl)) rfl rfl rfl ?_
    refine AO.op (O.lenR rfl rfl) rfl rfl rfl ?_
    refine AO.op (O.move rfl rfl) rfl rfl rfl ?_
    refine AO.nil ?_
    refine AQ.thenN ?_
    refine AW.block ?_
    refine AW.loopK [(22, _), (23, _)] (fun nn E H => ∃ (k : Nat), (k ≤ m.opts.length) ∧ (∀ j, j < k → (oat m.opts j).val.length ≤ 1200) ∧ nn = m.opts.length - k ∧ E = [(24, .val (.int .i64 (k : Int)))] ∧ H = [.blk B1 31 6 [.val (.int .i64 m.ty), .val (.int .i64 m.code), .val (.int .i64 m.id), roB m.tok, roO m.opts, roB m.pay]]) _ (⟨0, by omega, by omega, rfl, rfl, rfl⟩) (by repeat (first | exact envNil | refine envCons rfl ?_)) (by repeat (first | exact envNil | refine envCons rfl ?_)) (by repeat (first | exact subPnil | refine subPcons 0 rfl ?_)) ?_
    rintro nn E H ⟨k, hk, hh, rfl, rfl, rfl⟩
    dsimp only [List.cons_append, List.nil_append]
    refine AW.seq ?_
    refine AW.region ?_
    refine AO.op (O.lss rfl rfl rfl (by rfl)) rfl rfl rfl ?_
    refine AO.nil ?_
    refine AQ.thenN ?_
    refine AW.seq ?_
    refine AW.split rfl (fun h2 => ?_) (fun h2 => ?_) <;> (try simp only [decide_eq_true_eq, decide_eq_false_iff_not, beq_iff_eq, beq_eq_false_iff_ne, bne_iff_ne, bne_eq_false_iff_eq, Bool.not_eq_true', Bool.not_eq_false', Bool.not_eq_true, Bool.not_eq_false, ne_eq, Int.not_lt, Int.not_le, Bool.and_eq_true, Bool.or_eq_true, Bool.or_eq_false_iff, Bool.and_eq_false_imp, strOf_toList, Decidable.not_not] at h2)
    · skip
      have hk2 : k < m.opts.length := by omega
      refine AW.skip ?_
      refine AQ.thenN ?_
      refine AW.seq ?_
      refine AW.block ?_
      refine AW.seq ?_
      refine AW.region ?_
      refine AO.op (O.idxR rfl rfl rfl ⟨(by omega), (by omega)⟩) rfl rfl rfl ?_
      refine AO.op (O.loadRK rfl rfl (by exact getO (by omega) (by omega)) (by rfl)) rfl rfl rfl ?_
      refine AO.opB (O.alloc rfl (by (dsimp only [List.set, List.append, List.cons_append, List.nil_append, roB_cells, roI_cells, roO_cells, splice, ofConst, AV.cells, List.map, List.map_cons, List.map_nil, List.take, List.drop, Nat.zero_add, Nat.add_zero, Nat.reduceAdd, Nat.reduceMul, Nat.zero_mul, Value.cells, List.toList_toArray, zerosA, List.replicate, List.flatten, List.append_nil]; done)) (by rfl)) rfl rfl rfl ?_
      intro B2
      (refine AO.store (i := 0) rfl rfl rfl rfl rfl rfl (by rfl) (by rfl) (by rfl) (by (dsimp only [List.set, List.append, List.cons_append, List.nil_append, roB_cells, roI_cells, roO_cells, splice, ofConst, AV.cells, List.map, List.map_cons, List.map_nil, List.take, List.drop, Nat.zero_add, Nat.add_zero, Nat.reduceAdd, Nat.reduceMul, Nat.zero_mul, Value.cells, List.toList_toArray, zerosA, List.replicate, List.flatten, List.append_nil]; done)) (by (dsimp only [List.set, List.append, List.cons_append, List.nil_append, roB_cells, roI_cells, roO_cells, splice, ofConst, AV.cells, List.map, List.map_cons, List.map_nil, List.take, List.drop, Nat.zero_add, Nat.add_zero, Nat.reduceAdd, Nat.reduceMul, Nat.zero_mul, Value.cells, List.toList_toArray, zerosA, List.replicate, List.flatten, List.append_nil]; done)) ?_)
      refine AO.nil ?_
      refine AQ.thenN ?_
      refine AW.seq ?_
      refine AW.region ?_
      refine AO.op (O.fieldAddr rfl rfl) rfl rfl rfl ?_
      refine AO.op (O.load rfl rfl (by repeat (exact List.Mem.head _)) (by rfl)) rfl rfl rfl ?_
      refine AO.op (O.lenR rfl rfl) rfl rfl rfl ?_
      refine AO.op (O.gtr rfl rfl rfl (by rfl)) rfl rfl rfl ?_
      refine AO.nil ?_
      refine AQ.thenN ?_
      refine AW.split rfl (fun h3 => ?_) (fun h3 => ?_) <;> (try simp only [decide_eq_true_eq, decide_eq_false_iff_not, beq_iff_eq, beq_eq_false_iff_ne, bne_iff_ne, bne_eq_false_iff_eq, Bool.not_eq_true', Bool.not_eq_false', Bool.not_eq_true, Bool.not_eq_false, ne_eq, Int.not_lt, Int.not_le, Bool.and_eq_true, Bool.or_eq_true, Bool.or_eq_false_iff, Bool.and_eq_false_imp, strOf_toList, Decidable.not_not] at h3)
      · skip
        have e : decide (LightM m) = false := decide_eq_false fun hl => by have := hl.2 k hk2; omega
        refine AW.seq ?_
        refine AW.region ?_
        refine AO.op (O.assign rfl rfl) rfl rfl rfl ?_
        refine AO.nil ?_
        refine AQ.thenN ?_
        refine AW.ret ?_
        refine AQ.blockR ?_
        refine AQ.thenR ?_
        refine AQ.loopR ?_
        refine AQ.blockR ?_
        refine AQ.thenR ?_
        refine AQ.ret1 rfl rfl ⟨_, List.nil_sublist _, .nil⟩ (⟨by rw [e]; rfl, rfl⟩)
      · skip
        refine AW.skip ?_
        refine AQ.blockN ?_
        refine AQ.thenN ?_
        refine AW.region ?_
        refine AO.op (O.add rfl rfl rfl (by exact wI64 (by omega))) rfl rfl rfl ?_
        refine AO.op (O.move rfl rfl) rfl rfl rfl ?_
        refine AO.nil ?_
        refine AQ.loopKN _ _ _ (by omega) (⟨k + 1, by omega, fun j hj => (Nat.lt_or_ge j k).elim (hh j) (fun h5 => by rw [show j = k by omega]; omega), rfl, rfl, rfl⟩) (by repeat (first | exact envNil | refine envCons rfl ?_)) (by repeat (first | exact envNil | refine envCons rfl ?_)) (by repeat (first | exact subPnil | refine subPcons 1 rfl ?_))
    · skip
      obtain rfl : k = m.opts.length := by omega
      have e : decide (LightM m) = true := decide_eq_true ⟨⟨by omega, by omega, by omega⟩, hh⟩
      refine AW.exit ?_
      refine AQ.thenX ?_
      refine AQ.loopX ?_
      refine AQ.blockX rfl ?_
      refine AQ.thenN ?_
      refine AW.seq ?_
      refine AW.region ?_
      refine AO.op (O.assign rfl rfl) rfl rfl rfl ?_
      refine AO.nil ?_
      refine AQ.thenN ?_
      refine AW.ret ?_
      refine AQ.ret1 rfl rfl ⟨_, List.nil_sublist _, .nil⟩ (⟨by rw [e]; rfl, rfl⟩)
theorem mod_in (x : Int) {n : Int} (h : 0 < n) : 0 ≤ x % n ∧ x % n < n := ⟨Int.emod_nonneg _ (by omega), Int.emod_lt_of_pos _ h⟩
def IsSm (r : AV) : Prop := ∃ m, SmM m ∧ r = aggM m
theorem optsA_two (a : List Opt) (n : Int) (v : List UInt8) : optsA a ++ [.val (.int .i64 n), roB v] = optsA (a ++ [⟨n, v⟩]) := (optsA_snoc a ⟨n, v⟩).symm
theorem SmM.with {m : Msg} (h : SmM m) {ty code id : Int} {x p : List UInt8} {os : List Opt} (hx : x.length ≤ 4294967296) (hp : p.length ≤ 4294967296) (ho : os.length ≤ 1000000) (hv : ∀ o ∈ os, o ∈ m.opts ∨ o.val.length ≤ 4294967296) : SmM ⟨ty, code, id, x, os, p⟩ :=
  ⟨hx, hp, ho, fun o ho => (hv o ho).elim (h.2.2.2 o) (fun g => g)⟩
def maxO (n : Nat) : List Opt := List.replicate n ⟨65535, []⟩
theorem maxO_succ (n : Nat) : maxO (n + 1) = maxO n ++ [⟨65535, []⟩] := by unfold maxO; rw [List.replicate_succ']
theorem maxO_mem {n : Nat} {o : Opt} (h : o ∈ maxO n) : o.val.length ≤ 4294967296 := by rw [List.eq_of_mem_replicate h]; simp
theorem some_anyZ (k z : Int) (hn : 0 ≤ z ∧ z ≤ 1000000) (hk : -9223372036854775808 ≤ k ∧ k ≤ 9223372036854775807) : Sp Try.prog 46 [.val (.int .i64 k), .val (.int .i64 z)] [] (Some1 fun r => ∃ x : List UInt8, (x.length : Int) = z ∧ r = roB x) := by
  obtain ⟨n, rfl⟩ : ∃ n : Nat, z = (n : Int) := ⟨z.toNat, by omega⟩
  exact (some_any k n (by omega) hk).mono fun r H' ⟨⟨x, hx, hr⟩, h⟩ => ⟨⟨x, by rw [hx], hr⟩, h⟩
set_option maxHeartbeats 4000000 in
theorem spoiltM_fn (m : Msg) (w by' : Int) (h : SmM m) (ho : m.opts.length ≤ 1000) (hby : -9223372036854775808 ≤ by' ∧ by' ≤ 9223372036854775807) : Sp Try.prog 25 [aggM m, .val (.int .i64 w), .val (.int .i64 by')] [] (Some1 IsSm) := by
  have h1 := h.1
  have h2 := h.2.1
  refine Sp.enter Try.func25 rfl _ Try.ntmps25 rfl (fun w0 R0 => ?_)
  refine AW.seq ?_
  refine AW.region ?_
  refine AO.opB (O.box rfl rfl rfl rfl rfl) rfl rfl rfl ?_
  intro B1
  refine AO.opB (O.alloc rfl (by (dsimp only [List.set, List.append, List.cons_append, List.nil_append, roB_cells, roI_cells, roO_cells, splice, ofConst, AV.cells, List.map, List.map_cons, List.map_nil, List.take, List.drop, Nat.zero_add, Nat.add_zero, Nat.reduceAdd, Nat.reduceMul, Nat.zero_mul, Value.cells, List.toList_toArray, zerosA, List.replicate, List.flatten, List.append_nil]; done)) (by rfl)) rfl rfl rfl ?_
  intro B2
  refine AO.nil ?_
  refine AQ.thenN ?_
  refine AW.seq ?_
  refine AW.region ?_
  (refine AO.op (O.loadK rfl rfl (by repeat (first | exact List.Mem.head _ | refine List.Mem.tail _ ?_)) (by (dsimp only [List.set, List.append, List.cons_append, List.nil_append, roB_cells, roI_cells, roO_cells, splice, ofConst, AV.cells, List.map, List.map_cons, List.map_nil, List.take, List.drop, Nat.zero_add, Nat.add_zero, Nat.reduceAdd, Nat.reduceMul, Nat.zero_mul, Value.cells, List.toList_toArray, zerosA, List.replicate, List.flatten, List.append_nil]; done)) (by rfl)) rfl rfl rfl ?_)
  refine AO.opN (O.call rfl Try.func38 rfl rfl rfl (copy_row m h)) rfl rfl rfl ?_
  rintro _ _ ⟨V3, rfl, hV3, rfl⟩
  simp only [List.cons_append, List.nil_append]
  (refine AO.store (i := 2) rfl rfl rfl rfl rfl rfl (by (simp [AV.cells, AV.one, roB, roI, roO, show ∀ k z, (Value.int k z).oneCell' = true from fun _ _ => rfl, show ∀ k, (Value.bool k).oneCell' = true from fun _ => rfl, *]; done)) (by rfl) (by rfl) (by (dsimp only [List.set, List.append, List.cons_append, List.nil_append, roB_cells, roI_cells, roO_cells, splice, ofConst, AV.cells, List.map, List.map_cons, List.map_nil, List.take, List.drop, Nat.zero_add, Nat.add_zero, Nat.reduceAdd, Nat.reduceMul, Nat.zero_mul, Value.cells, List.toList_toArray, zerosA, List.replicate, List.flatten, List.append_nil]; done)) (by (dsimp only [List.set, List.append, List.cons_append, List.nil_append, roB_cells, roI_cells, roO_cells, splice, ofConst, AV.cells, List.map, List.map_cons, List.map_nil, List.take, List.drop, Nat.zero_add, Nat.add_zero, Nat.reduceAdd, Nat.reduceMul, Nat.zero_mul, Value.cells, List.toList_toArray, zerosA, List.replicate, List.flatten, List.append_nil]; done)) ?_)
  refine AO.nil ?_
  refine AQ.thenN ?_
  refine AW.seq ?_
  refine AW.seq ?_
  refine AW.region ?_
  refine AO.op (O.move rfl rfl) rfl rfl rfl ?_
  refine AO.op (O.call rfl Try.func16 rfl rfl rfl (Dk.mod_fn _ _ (by omega) (by omega))) rfl rfl rfl ?_
  refine AO.nil ?_
  refine AQ.thenN ?_
  refine AW.block ?_
  refine AW.seq ?_
  refine AW.region ?_
  refine AO.op (O.eql rfl rfl rfl (by rfl)) rfl rfl rfl ?_
  refine AO.op (O.assign rfl rfl) rfl rfl rfl ?_
  refine AO.nil ?_
  refine AQ.thenN ?_
  have m1 := mod_in by' (show (0 : Int) < 6 by decide)
  have m2 := mod_in by' (show (0 : Int) < 300 by decide)
  have m3 := mod_in by' (show (0 : Int) < 3 by decide)
  have m4 := mod_in by' (show (0 : Int) < 70 by decide)
  have m5 := mod_in by' (show (0 : Int) < 40 by decide)
  have m6 := mod_in by' (show (0 : Int) < 9 by decide)
  have m8 := mod_in by' (show (0 : Int) < 2 by decide)
  have m7 := mod_in (IntKind.i64.wrap (by'.tdiv 9)) (show (0 : Int) < 2 by decide)
  obtain ⟨n46, hn46e⟩ : ∃ n : Nat, 4036 + by' % 70 = (n : Int) := ⟨(4036 + by' % 70).toNat, by omega⟩
  obtain ⟨n69, hn69e⟩ : ∃ n : Nat, 1034 + IntKind.i64.wrap (by'.tdiv 9) % 2 = (n : Int) := ⟨(1034 + IntKind.i64.wrap (by'.tdiv 9) % 2).toNat, by omega⟩
  refine AW.split rfl (fun hc0 => ?_) (fun hc0 => ?_) <;> (try simp only [decide_eq_true_eq, decide_eq_false_iff_not, beq_iff_eq, beq_eq_false_iff_ne, bne_iff_ne, bne_eq_false_iff_eq, Bool.not_eq_true', Bool.not_eq_false', Bool.not_eq_true, Bool.not_eq_false, ne_eq, Int.not_lt, Int.not_le, Bool.and_eq_true, Bool.or_eq_true, Bool.or_eq_false_iff, Bool.and_eq_false_imp, strOf_toList, Decidable.not_not] at hc0)
  · skip
    refine AW.region ?_
    refine AO.op (O.move rfl rfl) rfl rfl rfl ?_
    refine AO.op (O.call rfl Try.func16 rfl rfl rfl (Dk.mod_fn _ _ (by omega) (by omega))) rfl rfl rfl ?_
    refine AO.op (O.sub rfl rfl rfl (by exact wI64 (by omega))) rfl rfl rfl ?_
    refine AO.op (O.fieldAddr rfl rfl) rfl rfl rfl ?_
    (refine AO.store (i := 2) rfl rfl rfl rfl rfl rfl (by rfl) (by rfl) (by rfl) (by (dsimp only [List.set, List.append, List.cons_append, List.nil_append, roB_cells, roI_cells, roO_cells, splice, ofConst, AV.cells, List.map, List.map_cons, List.map_nil, List.take, List.drop, Nat.zero_add, Nat.add_zero, Nat.reduceAdd, Nat.reduceMul, Nat.zero_mul, Value.cells, List.toList_toArray, zerosA, List.replicate, List.flatten, List.append_nil]; done)) (by (dsimp only [List.set, List.append, List.cons_append, List.nil_append, roB_cells, roI_cells, roO_cells, splice, ofConst, AV.cells, List.map, List.map_cons, List.map_nil, List.take, List.drop, Nat.zero_add, Nat.add_zero, Nat.reduceAdd, Nat.reduceMul, Nat.zero_mul, Value.cells, List.toList_toArray, zerosA, List.replicate, List.flatten, List.append_nil]; done)) ?_)
    refine AO.nil ?_
    refine AQ.blockN ?_
    refine AQ.thenN ?_
    refine AW.seq ?_
    refine AW.region ?_
    (refine AO.op (O.loadK rfl rfl (by repeat (first | exact List.Mem.head _ | refine List.Mem.tail _ ?_)) (by (dsimp only [List.set, List.append, List.cons_append, List.nil_append, roB_cells, roI_cells, roO_cells, splice, ofConst, AV.cells, List.map, List.map_cons, List.map_nil, List.take, List.drop, Nat.zero_add, Nat.add_zero, Nat.reduceAdd, Nat.reduceMul, Nat.zero_mul, Value.cells, List.toList_toArray, zerosA, List.replicate, List.flatten, List.append_nil]; done)) (by rfl)) rfl rfl rfl ?_)
    (refine AO.store (i := 1) rfl rfl rfl rfl rfl rfl (by (simp [AV.cells, AV.one, roB, roI, roO, show ∀ k z, (Value.int k z).oneCell' = true from fun _ _ => rfl, show ∀ k, (Value.bool k).oneCell' = true from fun _ => rfl, *]; done)) (by rfl) (by rfl) (by (dsimp only [List.set, List.append, List.cons_append, List.nil_append, roB_cells, roI_cells, roO_cells, splice, ofConst, AV.cells, List.map, List.map_cons, List.map_nil, List.take, List.drop, Nat.zero_add, Nat.add_zero, Nat.reduceAdd, Nat.reduceMul, Nat.zero_mul, Value.cells, List.toList_toArray, zerosA, List.replicate, List.flatten, List.append_nil]; done)) (by (dsimp only [List.set, List.append, List.cons_append, List.nil_append, roB_cells, roI_cells, roO_cells, splice, ofConst, AV.cells, List.map, List.map_cons, List.map_nil, List.take, List.drop, Nat.zero_add, Nat.add_zero, Nat.reduceAdd, Nat.reduceMul, Nat.zero_mul, Value.cells, List.toList_toArray, zerosA, List.replicate, List.flatten, List.append_nil]; done)) ?_)
    refine AO.nil ?_
    refine AQ.thenN ?_
    refine AW.ret ?_
    refine AQ.g ?_
    refine G.freezeCell 0 0 4 rfl rfl rfl ?_
    refine AQ.u ?_
    refine AQ.retCell rfl rfl (by repeat (exact List.Mem.head _)) (by (dsimp only [List.set, List.append, List.cons_append, List.nil_append, roB_cells, roI_cells, roO_cells, splice, ofConst, AV.cells, List.map, List.map_cons, List.map_nil, List.take, List.drop, Nat.zero_add, Nat.add_zero, Nat.reduceAdd, Nat.reduceMul, Nat.zero_mul, Value.cells, List.toList_toArray, zerosA, List.replicate, List.flatten, List.append_nil]; rfl)) rfl ⟨_, List.nil_sublist _, .nil⟩ (⟨⟨_, h.with h1 h2 (by omega) (fun o ho => .inl ho), rfl⟩, rfl⟩)
  · skip
    refine AW.seq ?_
    refine AW.region ?_
    refine AO.op (O.eql rfl rfl rfl (by rfl)) rfl rfl rfl ?_
    refine AO.op (O.assign rfl rfl) rfl rfl rfl ?_
    refine AO.nil ?_
    refine AQ.thenN ?_
    refine AW.split rfl (fun hc1 => ?_) (fun hc1 => ?_) <;> (try simp only [decide_eq_true_eq, decide_eq_false_iff_not, beq_iff_eq, beq_eq_false_iff_ne, bne_iff_ne, bne_eq_false_iff_eq, Bool.not_eq_true', Bool.not_eq_false', Bool.not_eq_true, Bool.not_eq_false, ne_eq, Int.not_lt, Int.not_le, Bool.and_eq_true, Bool.or_eq_true, Bool.or_eq_false_iff, Bool.and_eq_false_imp, strOf_toList, Decidable.not_not] at hc1)
    · skip
      refine AW.region ?_
      refine AO.op (O.move rfl rfl) rfl rfl rfl ?_
      refine AO.op (O.call rfl Try.func16 rfl rfl rfl (Dk.mod_fn _ _ (by omega) (by omega))) rfl rfl rfl ?_
      refine AO.op (O.sub rfl rfl rfl (by exact wI64 (by omega))) rfl rfl rfl ?_
      refine AO.op (O.fieldAddr rfl rfl) rfl rfl rfl ?_
      (refine AO.store (i := 2) rfl rfl rfl rfl rfl rfl (by rfl) (by rfl) (by rfl) (by (dsimp only [List.set, List.append, List.cons_append, List.nil_append, roB_cells, roI_cells, roO_cells, splice, ofConst, AV.cells, List.map, List.map_cons, List.map_nil, List.take, List.drop, Nat.zero_add, Nat.add_zero, Nat.reduceAdd, Nat.reduceMul, Nat.zero_mul, Value.cells, List.toList_toArray, zerosA, List.replicate, List.flatten, List.append_nil]; done)) (by (dsimp only [List.set, List.append, List.cons_append, List.nil_append, roB_cells, roI_cells, roO_cells, splice, ofConst, AV.cells, List.map, List.map_cons, List.map_nil, List.take, List.drop, Nat.zero_add, Nat.add_zero, Nat.reduceAdd, Nat.reduceMul, Nat.zero_mul, Value.cells, List.toList_toArray, zerosA, List.replicate, List.flatten, List.append_nil]; done)) ?_)
      refine AO.nil ?_
      refine AQ.blockN ?_
      refine AQ.thenN ?_
      refine AW.seq ?_
      refine AW.region ?_
      (refine AO.op (O.loadK rfl rfl (by repeat (first | exact List.Mem.head _ | refine List.Mem.tail _ ?_)) (by (dsimp only [List.set, List.append, List.cons_append, List.nil_append, roB_cells, roI_cells, roO_cells, splice, ofConst, AV.cells, List.map, List.map_cons, List.map_nil, List.take, List.drop, Nat.zero_add, Nat.add_zero, Nat.reduceAdd, Nat.reduceMul, Nat.zero_mul, Value.cells, List.toList_toArray, zerosA, List.replicate, List.flatten, List.append_nil]; done)) (by rfl)) rfl rfl rfl ?_)
      (refine AO.store (i := 1) rfl rfl rfl rfl rfl rfl (by (simp [AV.cells, AV.one, roB, roI, roO, show ∀ k z, (Value.int k z).oneCell' = true from fun _ _ => rfl, show ∀ k, (Value.bool k).oneCell' = true from fun _ => rfl, *]; done)) (by rfl) (by rfl) (by (dsimp only [List.set, List.append, List.cons_append, List.nil_append, roB_cells, roI_cells, roO_cells, splice, ofConst, AV.cells, List.map, List.map_cons, List.map_nil, List.take, List.drop, Nat.zero_add, Nat.add_zero, Nat.reduceAdd, Nat.reduceMul, Nat.zero_mul, Value.cells, List.toList_toArray, zerosA, List.replicate, List.flatten, List.append_nil]; done)) (by (dsimp only [List.set, List.append, List.cons_append, List.nil_append, roB_cells, roI_cells, roO_cells, splice, ofConst, AV.cells, List.map, List.map_cons, List.map_nil, List.take, List.drop, Nat.zero_add, Nat.add_zero, Nat.reduceAdd, Nat.reduceMul, Nat.zero_mul, Value.cells, List.toList_toArray, zerosA, List.replicate, List.flatten, List.append_nil]; done)) ?_)
      refine AO.nil ?_
      refine AQ.thenN ?_
      refine AW.ret ?_
      refine AQ.g ?_
      refine G.freezeCell 0 0 4 rfl rfl rfl ?_
      refine AQ.u ?_
      refine AQ.retCell rfl rfl (by repeat (exact List.Mem.head _)) (by (dsimp only [List.set, List.append, List.cons_append, List.nil_append, roB_cells, roI_cells, roO_cells, splice, ofConst, AV.cells, List.map, List.map_cons, List.map_nil, List.take, List.drop, Nat.zero_add, Nat.add_zero, Nat.reduceAdd, Nat.reduceMul, Nat.zero_mul, Value.cells, List.toList_toArray, zerosA, List.replicate, List.flatten, List.append_nil]; rfl)) rfl ⟨_, List.nil_sublist _, .nil⟩ (⟨⟨_, h.with h1 h2 (by omega) (fun o ho => .inl ho), rfl⟩, rfl⟩)
    · skip
      refine AW.seq ?_
      refine AW.region ?_
      refine AO.op (O.eql rfl rfl rfl (by rfl)) rfl rfl rfl ?_
      refine AO.op (O.assign rfl rfl) rfl rfl rfl ?_
      refine AO.nil ?_
      refine AQ.thenN ?_
      refine AW.split rfl (fun hc2 => ?_) (fun hc2 => ?_) <;> (try simp only [decide_eq_true_eq, decide_eq_false_iff_not, beq_iff_eq, beq_eq_false_iff_ne, bne_iff_ne, bne_eq_false_iff_eq, Bool.not_eq_true', Bool.not_eq_false', Bool.not_eq_true, Bool.not_eq_false, ne_eq, Int.not_lt, Int.not_le, Bool.and_eq_true, Bool.or_eq_true, Bool.or_eq_false_iff, Bool.and_eq_false_imp, strOf_toList, Decidable.not_not] at hc2)
      · skip
        refine AW.region ?_
        refine AO.op (O.move rfl rfl) rfl rfl rfl ?_
        refine AO.op (O.call rfl Try.func16 rfl rfl rfl (Dk.mod_fn _ _ (by omega) (by omega))) rfl rfl rfl ?_
        refine AO.op (O.add rfl rfl rfl (by exact wI64 (by omega))) rfl rfl rfl ?_
        refine AO.op (O.sub rfl rfl rfl (by exact wI64 (by omega))) rfl rfl rfl ?_
        refine AO.op (O.fieldAddr rfl rfl) rfl rfl rfl ?_
        (refine AO.store (i := 2) rfl rfl rfl rfl rfl rfl (by rfl) (by rfl) (by rfl) (by (dsimp only [List.set, List.append, List.cons_append, List.nil_append, roB_cells, roI_cells, roO_cells, splice, ofConst, AV.cells, List.map, List.map_cons, List.map_nil, List.take, List.drop, Nat.zero_add, Nat.add_zero, Nat.reduceAdd, Nat.reduceMul, Nat.zero_mul, Value.cells, List.toList_toArray, zerosA, List.replicate, List.flatten, List.append_nil]; done)) (by (dsimp only [List.set, List.append, List.cons_append, List.nil_append, roB_cells, roI_cells, roO_cells, splice, ofConst, AV.cells, List.map, List.map_cons, List.map_nil, List.take, List.drop, Nat.zero_add, Nat.add_zero, Nat.reduceAdd, Nat.reduceMul, Nat.zero_mul, Value.cells, List.toList_toArray, zerosA, List.replicate, List.flatten, List.append_nil]; done)) ?_)
        refine AO.nil ?_
        refine AQ.blockN ?_
        refine AQ.thenN ?_
        refine AW.seq ?_
        refine AW.region ?_
        (refine AO.op (O.loadK rfl rfl (by repeat (first | exact List.Mem.head _ | refine List.Mem.tail _ ?_)) (by (dsimp only [List.set, List.append, List.cons_append, List.nil_append, roB_cells, roI_cells, roO_cells, splice, ofConst, AV.cells, List.map, List.map_cons, List.map_nil, List.take, List.drop, Nat.zero_add, Nat.add_zero, Nat.reduceAdd, Nat.reduceMul, Nat.zero_mul, Value.cells, List.toList_toArray, zerosA, List.replicate, List.flatten, List.append_nil]; done)) (by rfl)) rfl rfl rfl ?_)
        (refine AO.store (i := 1) rfl rfl rfl rfl rfl rfl (by (simp [AV.cells, AV.one, roB, roI, roO, show ∀ k z, (Value.int k z).oneCell' = true from fun _ _ => rfl, show ∀ k, (Value.bool k).oneCell' = true from fun _ => rfl, *]; done)) (by rfl) (by rfl) (by (dsimp only [List.set, List.append, List.cons_append, List.nil_append, roB_cells, roI_cells, roO_cells, splice, ofConst, AV.cells, List.map, List.map_cons, List.map_nil, List.take, List.drop, Nat.zero_add, Nat.add_zero, Nat.reduceAdd, Nat.reduceMul, Nat.zero_mul, Value.cells, List.toList_toArray, zerosA, List.replicate, List.flatten, List.append_nil]; done)) (by (dsimp only [List.set, List.append, List.cons_append, List.nil_append, roB_cells, roI_cells, roO_cells, splice, ofConst, AV.cells, List.map, List.map_cons, List.map_nil, List.take, List.drop, Nat.zero_add, Nat.add_zero, Nat.reduceAdd, Nat.reduceMul, Nat.zero_mul, Value.cells, List.toList_toArray, zerosA, List.replicate, List.flatten, List.append_nil]; done)) ?_)
        refine AO.nil ?_
        refine AQ.thenN ?_
        refine AW.ret ?_
        refine AQ.g ?_
        refine G.freezeCell 0 0 4 rfl rfl rfl ?_
        refine AQ.u ?_
        refine AQ.retCell rfl rfl (by repeat (exact List.Mem.head _)) (by (dsimp only [List.set, List.append, List.cons_append, List.nil_append, roB_cells, roI_cells, roO_cells, splice, ofConst, AV.cells, List.map, List.map_cons, List.map_nil, List.take, List.drop, Nat.zero_add, Nat.add_zero, Nat.reduceAdd, Nat.reduceMul, Nat.zero_mul, Value.cells, List.toList_toArray, zerosA, List.replicate, List.flatten, List.append_nil]; rfl)) rfl ⟨_, List.nil_sublist _, .nil⟩ (⟨⟨_, h.with h1 h2 (by omega) (fun o ho => .inl ho), rfl⟩, rfl⟩)
      · skip
        refine AW.seq ?_
        refine AW.region ?_
        refine AO.op (O.eql rfl rfl rfl (by rfl)) rfl rfl rfl ?_
        refine AO.op (O.assign rfl rfl) rfl rfl rfl ?_
        refine AO.nil ?_
        refine AQ.thenN ?_
        refine AW.split rfl (fun hc3 => ?_) (fun hc3 => ?_) <;> (try simp only [decide_eq_true_eq, decide_eq_false_iff_not, beq_iff_eq, beq_eq_false_iff_ne, bne_iff_ne, bne_eq_false_iff_eq, Bool.not_eq_true', Bool.not_eq_false', Bool.not_eq_true, Bool.not_eq_false, ne_eq, Int.not_lt, Int.not_le, Bool.and_eq_true, Bool.or_eq_true, Bool.or_eq_false_iff, Bool.and_eq_false_imp, strOf_toList, Decidable.not_not] at hc3)
        · skip
          refine AW.region ?_
          refine AO.op (O.move rfl rfl) rfl rfl rfl ?_
          refine AO.op (O.move rfl rfl) rfl rfl rfl ?_
          refine AO.op (O.call rfl Try.func16 rfl rfl rfl (Dk.mod_fn _ _ (by omega) (by omega))) rfl rfl rfl ?_
          refine AO.op (O.add rfl rfl rfl (by exact wI64 (by omega))) rfl rfl rfl ?_
          refine AO.opN (O.call rfl Try.func46 rfl rfl rfl (some_anyZ _ _ (by omega) hby)) rfl rfl rfl ?_
          rintro _ _ ⟨⟨x4, hx4, rfl⟩, rfl⟩
          simp only [List.cons_append, List.nil_append]
          refine AO.op (O.fieldAddr rfl rfl) rfl rfl rfl ?_
          (refine AO.store (i := 2) rfl rfl rfl rfl rfl rfl (by rfl) (by rfl) (by rfl) (by (dsimp only [List.set, List.append, List.cons_append, List.nil_append, roB_cells, roI_cells, roO_cells, splice, ofConst, AV.cells, List.map, List.map_cons, List.map_nil, List.take, List.drop, Nat.zero_add, Nat.add_zero, Nat.reduceAdd, Nat.reduceMul, Nat.zero_mul, Value.cells, List.toList_toArray, zerosA, List.replicate, List.flatten, List.append_nil]; done)) (by (dsimp only [List.set, List.append, List.cons_append, List.nil_append, roB_cells, roI_cells, roO_cells, splice, ofConst, AV.cells, List.map, List.map_cons, List.map_nil, List.take, List.drop, Nat.zero_add, Nat.add_zero, Nat.reduceAdd, Nat.reduceMul, Nat.zero_mul, Value.cells, List.toList_toArray, zerosA, List.replicate, List.flatten, List.append_nil]; done)) ?_)
          refine AO.nil ?_
          refine AQ.blockN ?_
          refine AQ.thenN ?_
          refine AW.seq ?_
          refine AW.region ?_
          (refine AO.op (O.loadK rfl rfl (by repeat (first | exact List.Mem.head _ | refine List.Mem.tail _ ?_)) (by (dsimp only [List.set, List.append, List.cons_append, List.nil_append, roB_cells, roI_cells, roO_cells, splice, ofConst, AV.cells, List.map, List.map_cons, List.map_nil, List.take, List.drop, Nat.zero_add, Nat.add_zero, Nat.reduceAdd, Nat.reduceMul, Nat.zero_mul, Value.cells, List.toList_toArray, zerosA, List.replicate, List.flatten, List.append_nil]; done)) (by rfl)) rfl rfl rfl ?_)
          (refine AO.store (i := 1) rfl rfl rfl rfl rfl rfl (by (simp [AV.cells, AV.one, roB, roI, roO, show ∀ k z, (Value.int k z).oneCell' = true from fun _ _ => rfl, show ∀ k, (Value.bool k).oneCell' = true from fun _ => rfl, *]; done)) (by rfl) (by rfl) (by (dsimp only [List.set, List.append, List.cons_append, List.nil_append, roB_cells, roI_cells, roO_cells, splice, ofConst, AV.cells, List.map, List.map_cons, List.map_nil, List.take, List.drop, Nat.zero_add, Nat.add_zero, Nat.reduceAdd, Nat.reduceMul, Nat.zero_mul, Value.cells, List.toList_toArray, zerosA, List.replicate, List.flatten, List.append_nil]; done)) (by (dsimp only [List.set, List.append, List.cons_append, List.nil_append, roB_cells, roI_cells, roO_cells, splice, ofConst, AV.cells, List.map, List.map_cons, List.map_nil, List.take, List.drop, Nat.zero_add, Nat.add_zero, Nat.reduceAdd, Nat.reduceMul, Nat.zero_mul, Value.cells, List.toList_toArray, zerosA, List.replicate, List.flatten, List.append_nil]; done)) ?_)
          refine AO.nil ?_
          refine AQ.thenN ?_
          refine AW.ret ?_
          refine AQ.g ?_
          refine G.freezeCell 0 0 4 rfl rfl rfl ?_
          refine AQ.u ?_
          refine AQ.retCell rfl rfl (by repeat (exact List.Mem.head _)) (by (dsimp only [List.set, List.append, List.cons_append, List.nil_append, roB_cells, roI_cells, roO_cells, splice, ofConst, AV.cells, List.map, List.map_cons, List.map_nil, List.take, List.drop, Nat.zero_add, Nat.add_zero, Nat.reduceAdd, Nat.reduceMul, Nat.zero_mul, Value.cells, List.toList_toArray, zerosA, List.replicate, List.flatten, List.append_nil]; rfl)) rfl ⟨_, List.nil_sublist _, .nil⟩ (⟨⟨_, h.with (by omega) h2 (by omega) (fun o ho => .inl ho), rfl⟩, rfl⟩)
        · skip
          refine AW.seq ?_
          refine AW.region ?_
          refine AO.op (O.eql rfl rfl rfl (by rfl)) rfl rfl rfl ?_
          refine AO.op (O.assign rfl rfl) rfl rfl rfl ?_
          refine AO.nil ?_
          refine AQ.thenN ?_
          refine AW.split rfl (fun hc4 => ?_) (fun hc4 => ?_) <;> (try simp only [decide_eq_true_eq, decide_eq_false_iff_not, beq_iff_eq, beq_eq_false_iff_ne, bne_iff_ne, bne_eq_false_iff_eq, Bool.not_eq_true', Bool.not_eq_false', Bool.not_eq_true, Bool.not_eq_false, ne_eq, Int.not_lt, Int.not_le, Bool.and_eq_true, Bool.or_eq_true, Bool.or_eq_false_iff, Bool.and_eq_false_imp, strOf_toList, Decidable.not_not] at hc4)
          · skip
            refine AW.region ?_
            refine AO.op (O.move rfl rfl) rfl rfl rfl ?_
            refine AO.op (O.call rfl Try.func16 rfl rfl rfl (Dk.mod_fn _ _ (by omega) (by omega))) rfl rfl rfl ?_
            refine AO.op (O.add rfl rfl rfl (by exact wI64 (by omega))) rfl rfl rfl ?_
            refine AO.op (O.makeB rfl rfl rfl (by assumption) (by assumption) (by omega) (by (unfold maxLen; omega)) (by rfl)) rfl rfl rfl ?_
            refine AO.op (O.fieldAddr rfl rfl) rfl rfl rfl ?_
            (refine AO.store (i := 2) rfl rfl rfl rfl rfl rfl (by rfl) (by rfl) (by rfl) (by (dsimp only [List.set, List.append, List.cons_append, List.nil_append, roB_cells, roI_cells, roO_cells, splice, ofConst, AV.cells, List.map, List.map_cons, List.map_nil, List.take, List.drop, Nat.zero_add, Nat.add_zero, Nat.reduceAdd, Nat.reduceMul, Nat.zero_mul, Value.cells, List.toList_toArray, zerosA, List.replicate, List.flatten, List.append_nil]; done)) (by (dsimp only [List.set, List.append, List.cons_append, List.nil_append, roB_cells, roI_cells, roO_cells, splice, ofConst, AV.cells, List.map, List.map_cons, List.map_nil, List.take, List.drop, Nat.zero_add, Nat.add_zero, Nat.reduceAdd, Nat.reduceMul, Nat.zero_mul, Value.cells, List.toList_toArray, zerosA, List.replicate, List.flatten, List.append_nil]; done)) ?_)
            refine AO.nil ?_
            refine AQ.blockN ?_
            refine AQ.thenN ?_
            refine AW.seq ?_
            refine AW.region ?_
            (refine AO.op (O.loadK rfl rfl (by repeat (first | exact List.Mem.head _ | refine List.Mem.tail _ ?_)) (by (dsimp only [List.set, List.append, List.cons_append, List.nil_append, roB_cells, roI_cells, roO_cells, splice, ofConst, AV.cells, List.map, List.map_cons, List.map_nil, List.take, List.drop, Nat.zero_add, Nat.add_zero, Nat.reduceAdd, Nat.reduceMul, Nat.zero_mul, Value.cells, List.toList_toArray, zerosA, List.replicate, List.flatten, List.append_nil]; done)) (by rfl)) rfl rfl rfl ?_)
            (refine AO.store (i := 1) rfl rfl rfl rfl rfl rfl (by (simp [AV.cells, AV.one, roB, roI, roO, show ∀ k z, (Value.int k z).oneCell' = true from fun _ _ => rfl, show ∀ k, (Value.bool k).oneCell' = true from fun _ => rfl, *]; done)) (by rfl) (by rfl) (by (dsimp only [List.set, List.append, List.cons_append, List.nil_append, roB_cells, roI_cells, roO_cells, splice, ofConst, AV.cells, List.map, List.map_cons, List.map_nil, List.take, List.drop, Nat.zero_add, Nat.add_zero, Nat.reduceAdd, Nat.reduceMul, Nat.zero_mul, Value.cells, List.toList_toArray, zerosA, List.replicate, List.flatten, List.append_nil]; done)) (by (dsimp only [List.set, List.append, List.cons_append, List.nil_append, roB_cells, roI_cells, roO_cells, splice, ofConst, AV.cells, List.map, List.map_cons, List.map_nil, List.take, List.drop, Nat.zero_add, Nat.add_zero, Nat.reduceAdd, Nat.reduceMul, Nat.zero_mul, Value.cells, List.toList_toArray, zerosA, List.replicate, List.flatten, List.append_nil]; done)) ?_)
            refine AO.nil ?_
            refine AQ.thenN ?_
            refine AW.ret ?_
            refine AQ.g ?_
            refine G.freezeCell 0 0 4 rfl rfl rfl ?_
            refine AQ.u ?_
            refine AQ.retCell rfl rfl (by repeat (exact List.Mem.head _)) (by (dsimp only [List.set, List.append, List.cons_append, List.nil_append, roB_cells, roI_cells, roO_cells, splice, ofConst, AV.cells, List.map, List.map_cons, List.map_nil, List.take, List.drop, Nat.zero_add, Nat.add_zero, Nat.reduceAdd, Nat.reduceMul, Nat.zero_mul, Value.cells, List.toList_toArray, zerosA, List.replicate, List.flatten, List.append_nil]; rfl)) rfl ⟨_, List.nil_sublist _, .nil⟩ (⟨⟨_, h.with h1 (by rw [List.length_replicate]; omega) (by omega) (fun o ho => .inl ho), rfl⟩, rfl⟩)
          · skip
            refine AW.seq ?_
            refine AW.region ?_
            refine AO.op (O.eql rfl rfl rfl (by rfl)) rfl rfl rfl ?_
            refine AO.op (O.assign rfl rfl) rfl rfl rfl ?_
            refine AO.nil ?_
            refine AQ.thenN ?_
            refine AW.split rfl (fun hc5 => ?_) (fun hc5 => ?_) <;> (try simp only [decide_eq_true_eq, decide_eq_false_iff_not, beq_iff_eq, beq_eq_false_iff_ne, bne_iff_ne, bne_eq_false_iff_eq, Bool.not_eq_true', Bool.not_eq_false', Bool.not_eq_true, Bool.not_eq_false, ne_eq, Int.not_lt, Int.not_le, Bool.and_eq_true, Bool.or_eq_true, Bool.or_eq_false_iff, Bool.and_eq_false_imp, strOf_toList, Decidable.not_not] at hc5)
            · skip
              refine AW.regionD 6 (by kernel_rfl) (by kernel_rfl) ?_
              simp only [List.take_succ_cons, List.take_zero, List.drop_succ_cons, List.drop_zero]
              refine FA.op (O.fieldAddr rfl rfl) rfl rfl rfl rfl ?_
              refine FA.op (O.load rfl rfl (by repeat (first | exact List.Mem.head _ | refine List.Mem.tail _ ?_)) (by rfl)) rfl rfl rfl rfl ?_
              refine FA.op (O.move rfl rfl) rfl rfl rfl rfl ?_
              refine FA.op (O.call rfl Try.func16 rfl rfl rfl (Dk.mod_fn _ _ (by omega) (by omega))) rfl rfl rfl rfl ?_
              refine FA.op (O.build rfl rfl rfl (by rfl)) rfl rfl rfl rfl ?_
              refine FA.op (OpW.frz (O.buildSlice rfl rfl rfl (by rfl) (by rfl) (by rfl) (by rfl)) (by (unfold maxLen; omega))) rfl rfl rfl rfl ?_
              refine FA.nil ?_
              simp only [chosen, List.nil_append, List.cons_append, List.append_nil]
              (refine AO.append' (i := 0) rfl rfl rfl rfl (by rfl) (by rfl) rfl rfl rfl (by exact SrcA.ro TyD.ax (by rfl) (Nat.le_of_ble_eq_true rfl)) (by rfl) (by (unfold maxLen; omega)) (by omega) (by (dsimp only [List.set, List.append, List.cons_append, List.nil_append, roB_cells, roI_cells, roO_cells, splice, ofConst, AV.cells, List.map, List.map_cons, List.map_nil, List.take, List.drop, Nat.zero_add, Nat.add_zero, Nat.reduceAdd, Nat.reduceMul, Nat.zero_mul, Value.cells, List.toList_toArray, zerosA, List.replicate, List.flatten, List.append_nil]; done)) (fun _ => by (dsimp only [List.set]; done)) ?_)
              intro V5 hV5
              refine AO.op (O.fieldAddr rfl rfl) rfl rfl rfl ?_
              (refine AO.store (i := 2) rfl rfl rfl rfl rfl rfl (by (simp [AV.cells, AV.one, *]; done)) (by rfl) (by rfl) (by (dsimp only [List.set, List.append, List.cons_append, List.nil_append, roB_cells, roI_cells, roO_cells, splice, ofConst, AV.cells, List.map, List.map_cons, List.map_nil, List.take, List.drop, Nat.zero_add, Nat.add_zero, Nat.reduceAdd, Nat.reduceMul, Nat.zero_mul, Value.cells, List.toList_toArray, zerosA, List.replicate, List.flatten, List.append_nil]; done)) (by (dsimp only [List.set, List.append, List.cons_append, List.nil_append, roB_cells, roI_cells, roO_cells, splice, ofConst, AV.cells, List.map, List.map_cons, List.map_nil, List.take, List.drop, Nat.zero_add, Nat.add_zero, Nat.reduceAdd, Nat.reduceMul, Nat.zero_mul, Value.cells, List.toList_toArray, zerosA, List.replicate, List.flatten, List.append_nil]; done)) ?_)
              refine AO.nil ?_
              refine AQ.blockN ?_
              refine AQ.thenN ?_
              refine AW.seq ?_
              refine AW.region ?_
              (refine AO.op (O.loadK rfl rfl (by repeat (first | exact List.Mem.head _ | refine List.Mem.tail _ ?_)) (by (dsimp only [List.set, List.append, List.cons_append, List.nil_append, roB_cells, roI_cells, roO_cells, splice, ofConst, AV.cells, List.map, List.map_cons, List.map_nil, List.take, List.drop, Nat.zero_add, Nat.add_zero, Nat.reduceAdd, Nat.reduceMul, Nat.zero_mul, Value.cells, List.toList_toArray, zerosA, List.replicate, List.flatten, List.append_nil]; done)) (by rfl)) rfl rfl rfl ?_)
              (refine AO.store (i := 1) rfl rfl rfl rfl rfl rfl (by (simp [AV.cells, AV.one, roB, roI, roO, show ∀ k z, (Value.int k z).oneCell' = true from fun _ _ => rfl, show ∀ k, (Value.bool k).oneCell' = true from fun _ => rfl, *]; done)) (by rfl) (by rfl) (by (dsimp only [List.set, List.append, List.cons_append, List.nil_append, roB_cells, roI_cells, roO_cells, splice, ofConst, AV.cells, List.map, List.map_cons, List.map_nil, List.take, List.drop, Nat.zero_add, Nat.add_zero, Nat.reduceAdd, Nat.reduceMul, Nat.zero_mul, Value.cells, List.toList_toArray, zerosA, List.replicate, List.flatten, List.append_nil]; done)) (by (dsimp only [List.set, List.append, List.cons_append, List.nil_append, roB_cells, roI_cells, roO_cells, splice, ofConst, AV.cells, List.map, List.map_cons, List.map_nil, List.take, List.drop, Nat.zero_add, Nat.add_zero, Nat.reduceAdd, Nat.reduceMul, Nat.zero_mul, Value.cells, List.toList_toArray, zerosA, List.replicate, List.flatten, List.append_nil]; done)) ?_)
              refine AO.nil ?_
              refine AQ.thenN ?_
              refine AW.ret ?_
              refine AQ.g ?_
              refine G.coeRow 0 (m.opts ++ [(⟨by' % 40, []⟩ : Opt)]).length (optsA (m.opts ++ [(⟨by' % 40, []⟩ : Opt)])) rfl (by simp) (by rw [optsA_snoc]; exact CoeL.app CoeL.refl (CoeL.cons Coe.rfl (CoeL.cons Coe.nil CoeL.nil))) ?_
              refine AQ.u ?_
              refine AQ.g ?_
              refine G.freezeCell 0 0 4 rfl rfl rfl ?_
              refine AQ.u ?_
              refine AQ.retCell rfl rfl (by repeat (exact List.Mem.head _)) (by (dsimp only [List.set, List.append, List.cons_append, List.nil_append, roB_cells, roI_cells, roO_cells, splice, ofConst, AV.cells, List.map, List.map_cons, List.map_nil, List.take, List.drop, Nat.zero_add, Nat.add_zero, Nat.reduceAdd, Nat.reduceMul, Nat.zero_mul, Value.cells, List.toList_toArray, zerosA, List.replicate, List.flatten, List.append_nil]; rfl)) rfl ⟨_, List.nil_sublist _, .nil⟩ (⟨⟨_, h.with (os := m.opts ++ [⟨by' % 40, []⟩]) h1 h2 (by simp; omega) (fun o ho => by rcases List.mem_append.1 ho with h9 | h9; exact .inl h9; rw [List.mem_singleton.1 h9]; exact .inr (by simp)), rfl⟩, rfl⟩)
            · skip
              refine AW.seq ?_
              refine AW.region ?_
              refine AO.op (O.eql rfl rfl rfl (by rfl)) rfl rfl rfl ?_
              refine AO.op (O.assign rfl rfl) rfl rfl rfl ?_
              refine AO.nil ?_
              refine AQ.thenN ?_
              refine AW.split rfl (fun hc6 => ?_) (fun hc6 => ?_) <;> (try simp only [decide_eq_true_eq, decide_eq_false_iff_not, beq_iff_eq, beq_eq_false_iff_ne, bne_iff_ne, bne_eq_false_iff_eq, Bool.not_eq_true', Bool.not_eq_false', Bool.not_eq_true, Bool.not_eq_false, ne_eq, Int.not_lt, Int.not_le, Bool.and_eq_true, Bool.or_eq_true, Bool.or_eq_false_iff, Bool.and_eq_false_imp, strOf_toList, Decidable.not_not] at hc6)
              · skip
                refine AW.regionD 12 (by kernel_rfl) (by kernel_rfl) ?_
                simp only [List.take_succ_cons, List.take_zero, List.drop_succ_cons, List.drop_zero]
                refine FA.op (O.fieldAddr rfl rfl) rfl rfl rfl rfl ?_
                refine FA.op (O.load rfl rfl (by repeat (first | exact List.Mem.head _ | refine List.Mem.tail _ ?_)) (by rfl)) rfl rfl rfl rfl ?_
                refine FA.op (O.move rfl rfl) rfl rfl rfl rfl ?_
                refine FA.op (O.call rfl Try.func16 rfl rfl rfl (Dk.mod_fn _ _ (by omega) (by omega))) rfl rfl rfl rfl ?_
                refine FA.op (O.add rfl rfl rfl (by exact wI64 (by omega))) rfl rfl rfl rfl ?_
                refine FA.op (O.move rfl rfl) rfl rfl rfl rfl ?_
                refine FA.op (O.quo rfl rfl rfl (by omega) (by rfl)) rfl rfl rfl rfl ?_
                refine FA.op (O.call rfl Try.func16 rfl rfl rfl (Dk.mod_fn _ _ (by omega) (by omega))) rfl rfl rfl rfl ?_
                refine FA.op (O.add rfl rfl rfl (by exact wI64 (by omega))) rfl rfl rfl rfl ?_
                refine FA.op (O.makeB rfl rfl rfl (by assumption) (by assumption) (by omega) (by (unfold maxLen; omega)) (by rfl)) rfl rfl rfl rfl ?_
                refine FA.op (O.build rfl rfl rfl (by rfl)) rfl rfl rfl rfl ?_
                refine FA.op (OpW.frz (O.buildSlice rfl rfl rfl (by rfl) (by rfl) (by rfl) (by rfl)) (by (unfold maxLen; omega))) rfl rfl rfl rfl ?_
                refine FA.nil ?_
                simp only [chosen, List.nil_append, List.cons_append, List.append_nil]
                (refine AO.append' (i := 0) rfl rfl rfl rfl (by rfl) (by rfl) rfl rfl rfl (by exact SrcA.ro TyD.ax (by rfl) (Nat.le_of_ble_eq_true rfl)) (by rfl) (by (unfold maxLen; omega)) (by omega) (by (dsimp only [List.set, List.append, List.cons_append, List.nil_append, roB_cells, roI_cells, roO_cells, splice, ofConst, AV.cells, List.map, List.map_cons, List.map_nil, List.take, List.drop, Nat.zero_add, Nat.add_zero, Nat.reduceAdd, Nat.reduceMul, Nat.zero_mul, Value.cells, List.toList_toArray, zerosA, List.replicate, List.flatten, List.append_nil]; done)) (fun _ => by (dsimp only [List.set]; done)) ?_)
                intro V6 hV6
                refine AO.op (O.fieldAddr rfl rfl) rfl rfl rfl ?_
                (refine AO.store (i := 2) rfl rfl rfl rfl rfl rfl (by (simp [AV.cells, AV.one, *]; done)) (by rfl) (by rfl) (by (dsimp only [List.set, List.append, List.cons_append, List.nil_append, roB_cells, roI_cells, roO_cells, splice, ofConst, AV.cells, List.map, List.map_cons, List.map_nil, List.take, List.drop, Nat.zero_add, Nat.add_zero, Nat.reduceAdd, Nat.reduceMul, Nat.zero_mul, Value.cells, List.toList_toArray, zerosA, List.replicate, List.flatten, List.append_nil]; done)) (by (dsimp only [List.set, List.append, List.cons_append, List.nil_append, roB_cells, roI_cells, roO_cells, splice, ofConst, AV.cells, List.map, List.map_cons, List.map_nil, List.take, List.drop, Nat.zero_add, Nat.add_zero, Nat.reduceAdd, Nat.reduceMul, Nat.zero_mul, Value.cells, List.toList_toArray, zerosA, List.replicate, List.flatten, List.append_nil]; done)) ?_)
                refine AO.nil ?_
                refine AQ.blockN ?_
                refine AQ.thenN ?_
                refine AW.seq ?_
                refine AW.region ?_
                (refine AO.op (O.loadK rfl rfl (by repeat (first | exact List.Mem.head _ | refine List.Mem.tail _ ?_)) (by (dsimp only [List.set, List.append, List.cons_append, List.nil_append, roB_cells, roI_cells, roO_cells, splice, ofConst, AV.cells, List.map, List.map_cons, List.map_nil, List.take, List.drop, Nat.zero_add, Nat.add_zero, Nat.reduceAdd, Nat.reduceMul, Nat.zero_mul, Value.cells, List.toList_toArray, zerosA, List.replicate, List.flatten, List.append_nil]; done)) (by rfl)) rfl rfl rfl ?_)
                (refine AO.store (i := 1) rfl rfl rfl rfl rfl rfl (by (simp [AV.cells, AV.one, roB, roI, roO, show ∀ k z, (Value.int k z).oneCell' = true from fun _ _ => rfl, show ∀ k, (Value.bool k).oneCell' = true from fun _ => rfl, *]; done)) (by rfl) (by rfl) (by (dsimp only [List.set, List.append, List.cons_append, List.nil_append, roB_cells, roI_cells, roO_cells, splice, ofConst, AV.cells, List.map, List.map_cons, List.map_nil, List.take, List.drop, Nat.zero_add, Nat.add_zero, Nat.reduceAdd, Nat.reduceMul, Nat.zero_mul, Value.cells, List.toList_toArray, zerosA, List.replicate, List.flatten, List.append_nil]; done)) (by (dsimp only [List.set, List.append, List.cons_append, List.nil_append, roB_cells, roI_cells, roO_cells, splice, ofConst, AV.cells, List.map, List.map_cons, List.map_nil, List.take, List.drop, Nat.zero_add, Nat.add_zero, Nat.reduceAdd, Nat.reduceMul, Nat.zero_mul, Value.cells, List.toList_toArray, zerosA, List.replicate, List.flatten, List.append_nil]; done)) ?_)
                refine AO.nil ?_
                refine AQ.thenN ?_
                refine AW.ret ?_
                refine AQ.g ?_
                refine G.coeRow 0 (m.opts ++ [(⟨65530 + by' % 9, List.replicate n69 0⟩ : Opt)]).length (optsA (m.opts ++ [(⟨65530 + by' % 9, List.replicate n69 0⟩ : Opt)])) rfl (by simp) (by rw [optsA_snoc]; exact CoeL.app CoeL.refl (CoeL.cons Coe.rfl (CoeL.cons Coe.rfl CoeL.nil))) ?_
                refine AQ.u ?_
                refine AQ.g ?_
                refine G.freezeCell 0 0 4 rfl rfl rfl ?_
                refine AQ.u ?_
                refine AQ.retCell rfl rfl (by repeat (exact List.Mem.head _)) (by (dsimp only [List.set, List.append, List.cons_append, List.nil_append, roB_cells, roI_cells, roO_cells, splice, ofConst, AV.cells, List.map, List.map_cons, List.map_nil, List.take, List.drop, Nat.zero_add, Nat.add_zero, Nat.reduceAdd, Nat.reduceMul, Nat.zero_mul, Value.cells, List.toList_toArray, zerosA, List.replicate, List.flatten, List.append_nil]; rfl)) rfl ⟨_, List.nil_sublist _, .nil⟩ (⟨⟨_, h.with (os := m.opts ++ [⟨65530 + by' % 9, List.replicate n69 0⟩]) h1 h2 (by simp; omega) (fun o ho => by rcases List.mem_append.1 ho with h9 | h9; exact .inl h9; rw [List.mem_singleton.1 h9]; exact .inr (by simp only [List.length_replicate]; omega)), rfl⟩, rfl⟩)
              · skip
                refine AW.seq ?_
                refine AW.region ?_
                refine AO.op (O.eql rfl rfl rfl (by rfl)) rfl rfl rfl ?_
                refine AO.op (O.assign rfl rfl) rfl rfl rfl ?_
                refine AO.nil ?_
                refine AQ.thenN ?_
                refine AW.split rfl (fun hc7 => ?_) (fun hc7 => ?_) <;> (try simp only [decide_eq_true_eq, decide_eq_false_iff_not, beq_iff_eq, beq_eq_false_iff_ne, bne_iff_ne, bne_eq_false_iff_eq, Bool.not_eq_true', Bool.not_eq_false', Bool.not_eq_true, Bool.not_eq_false, ne_eq, Int.not_lt, Int.not_le, Bool.and_eq_true, Bool.or_eq_true, Bool.or_eq_false_iff, Bool.and_eq_false_imp, strOf_toList, Decidable.not_not] at hc7)
                · skip
                  refine AW.seq ?_
                  refine AW.region ?_
                  refine AO.op (O.move rfl rfl) rfl rfl rfl ?_
                  refine AO.op (O.call rfl Try.func16 rfl rfl rfl (Dk.mod_fn _ _ (by omega) (by omega))) rfl rfl rfl ?_
                  refine AO.op (O.add rfl rfl rfl (by exact wI64 (by omega))) rfl rfl rfl ?_
                  refine AO.op (O.move rfl rfl) rfl rfl rfl ?_
                  refine AO.nil ?_
                  refine AQ.thenN ?_
                  refine AW.block ?_
                  refine AW.loopK [(3, _), (6, _), (79, _)] (fun nn E H => ∃ (j : Nat) (V : Value), ((j : Int) ≤ 31 + by' % 3) ∧ (V.oneCell' = true) ∧ nn = (31 + by' % 3 - j).toNat ∧ E = [(80, .val (.int .i64 (j : Int)))] ∧ H = [.row V 43 2 (m.opts.length + j) (optsA (m.opts ++ maxO j)), .blk B2 31 6 [.val (.int .i64 0), .val (.int .i64 0), .val (.int .i64 0), .val (.slice none 0 0), .val (.slice none 0 0), .val (.slice none 0 0)], .blk B1 31 6 [.val (.int .i64 m.ty), .val (.int .i64 m.code), .val (.int .i64 m.id), roB m.tok, .val V, roB m.pay]]) _ (⟨0, _, by omega, ‹_›, rfl, rfl, by rw [show m.opts ++ maxO 0 = m.opts from List.append_nil _]⟩) (by repeat (first | exact envNil | refine envCons rfl ?_)) (by repeat (first | exact envNil | refine envCons rfl ?_)) (by repeat (first | exact subPnil | refine subPcons 0 rfl ?_)) ?_
                  rintro nn E H ⟨j, V, hj, hV, rfl, rfl, rfl⟩
                  dsimp only [List.cons_append, List.nil_append]
                  refine AW.seq ?_
                  refine AW.region ?_
                  refine AO.op (O.lss rfl rfl rfl (by rfl)) rfl rfl rfl ?_
                  refine AO.nil ?_
                  refine AQ.thenN ?_
                  refine AW.seq ?_
                  refine AW.split rfl (fun h9 => ?_) (fun h9 => ?_) <;> (try simp only [decide_eq_true_eq, decide_eq_false_iff_not, beq_iff_eq, beq_eq_false_iff_ne, bne_iff_ne, bne_eq_false_iff_eq, Bool.not_eq_true', Bool.not_eq_false', Bool.not_eq_true, Bool.not_eq_false, ne_eq, Int.not_lt, Int.not_le, Bool.and_eq_true, Bool.or_eq_true, Bool.or_eq_false_iff, Bool.and_eq_false_imp, strOf_toList, Decidable.not_not] at h9)
                  · skip
                    refine AW.skip ?_
                    refine AQ.thenN ?_
                    refine AW.seq ?_
                    refine AW.block ?_
                    refine AW.region ?_
                    refine AO.op (O.fieldAddr rfl rfl) rfl rfl rfl ?_
                    refine AO.op (O.load rfl rfl (by repeat (first | exact List.Mem.head _ | refine List.Mem.tail _ ?_)) (by rfl)) rfl rfl rfl ?_
                    refine AO.op (O.build rfl rfl rfl (by rfl)) rfl rfl rfl ?_
                    refine AO.opB (O.buildSlice rfl rfl rfl (by rfl) (by rfl) (by rfl) (by rfl)) rfl rfl rfl ?_
                    intro B7
                    refine AO.g ?_
                    (refine G.freezeSl 0 85 rfl rfl ⟨Nat.le_refl _, by unfold maxLen; omega⟩ ?_)
                    refine G.unfull 85 rfl ?_
                    refine AO.u ?_
                    dsimp only [List.eraseIdx]
                    (refine AO.append' (i := 0) rfl rfl rfl rfl (by rfl) (by rfl) rfl rfl rfl (by exact SrcA.ro TyD.ax (by rfl) (Nat.le_of_ble_eq_true rfl)) (by rfl) (by (unfold maxLen; omega)) (by omega) (by (dsimp only [List.set, List.append, List.cons_append, List.nil_append, roB_cells, roI_cells, roO_cells, splice, ofConst, AV.cells, List.map, List.map_cons, List.map_nil, List.take, List.drop, Nat.zero_add, Nat.add_zero, Nat.reduceAdd, Nat.reduceMul, Nat.zero_mul, Value.cells, List.toList_toArray, zerosA, List.replicate, List.flatten, List.append_nil]; done)) (fun _ => by (dsimp only [List.set]; done)) ?_)
                    intro V8 hV8
                    refine AO.op (O.fieldAddr rfl rfl) rfl rfl rfl ?_
                    (refine AO.store (i := 2) rfl rfl rfl rfl rfl rfl (by (simp [AV.cells, AV.one, *]; done)) (by rfl) (by rfl) (by (dsimp only [List.set, List.append, List.cons_append, List.nil_append, roB_cells, roI_cells, roO_cells, splice, ofConst, AV.cells, List.map, List.map_cons, List.map_nil, List.take, List.drop, Nat.zero_add, Nat.add_zero, Nat.reduceAdd, Nat.reduceMul, Nat.zero_mul, Value.cells, List.toList_toArray, zerosA, List.replicate, List.flatten, List.append_nil]; done)) (by (dsimp only [List.set, List.append, List.cons_append, List.nil_append, roB_cells, roI_cells, roO_cells, splice, ofConst, AV.cells, List.map, List.map_cons, List.map_nil, List.take, List.drop, Nat.zero_add, Nat.add_zero, Nat.reduceAdd, Nat.reduceMul, Nat.zero_mul, Value.cells, List.toList_toArray, zerosA, List.replicate, List.flatten, List.append_nil]; done)) ?_)
                    refine AO.nil ?_
                    refine AQ.blockN ?_
                    refine AQ.thenN ?_
                    refine AW.region ?_
                    refine AO.op (O.add rfl rfl rfl (by exact wI64 (by omega))) rfl rfl rfl ?_
                    refine AO.op (O.move rfl rfl) rfl rfl rfl ?_
                    refine AO.nil ?_
                    refine AQ.g ?_
                    refine G.coeRow 0 (m.opts.length + (j + 1)) (optsA (m.opts ++ maxO (j + 1))) rfl (by omega) (by rw [maxO_succ, ← List.append_assoc, optsA_snoc]; exact CoeL.app CoeL.refl (CoeL.cons Coe.rfl (CoeL.cons Coe.nil CoeL.nil))) ?_
                    refine AQ.u ?_
                    refine AQ.loopKN _ _ _ (by omega) (⟨j + 1, _, by omega, ‹_›, rfl, rfl, rfl⟩) (by repeat (first | exact envNil | refine envCons rfl ?_)) (by repeat (first | exact envNil | refine envCons rfl ?_)) (by repeat (first | exact subPnil | refine subPcons 0 rfl ?_))
                  · skip
                    refine AW.exit ?_
                    refine AQ.thenX ?_
                    refine AQ.loopX ?_
                    refine AQ.blockX rfl ?_
                    refine AQ.blockN ?_
                    refine AQ.thenN ?_
                    refine AW.seq ?_
                    refine AW.region ?_
                    (refine AO.op (O.loadK rfl rfl (by repeat (first | exact List.Mem.head _ | refine List.Mem.tail _ ?_)) (by (dsimp only [List.set, List.append, List.cons_append, List.nil_append, roB_cells, roI_cells, roO_cells, splice, ofConst, AV.cells, List.map, List.map_cons, List.map_nil, List.take, List.drop, Nat.zero_add, Nat.add_zero, Nat.reduceAdd, Nat.reduceMul, Nat.zero_mul, Value.cells, List.toList_toArray, zerosA, List.replicate, List.flatten, List.append_nil]; done)) (by rfl)) rfl rfl rfl ?_)
                    (refine AO.store (i := 1) rfl rfl rfl rfl rfl rfl (by (simp [AV.cells, AV.one, roB, roI, roO, show ∀ k z, (Value.int k z).oneCell' = true from fun _ _ => rfl, show ∀ k, (Value.bool k).oneCell' = true from fun _ => rfl, *]; done)) (by rfl) (by rfl) (by (dsimp only [List.set, List.append, List.cons_append, List.nil_append, roB_cells, roI_cells, roO_cells, splice, ofConst, AV.cells, List.map, List.map_cons, List.map_nil, List.take, List.drop, Nat.zero_add, Nat.add_zero, Nat.reduceAdd, Nat.reduceMul, Nat.zero_mul, Value.cells, List.toList_toArray, zerosA, List.replicate, List.flatten, List.append_nil]; done)) (by (dsimp only [List.set, List.append, List.cons_append, List.nil_append, roB_cells, roI_cells, roO_cells, splice, ofConst, AV.cells, List.map, List.map_cons, List.map_nil, List.take, List.drop, Nat.zero_add, Nat.add_zero, Nat.reduceAdd, Nat.reduceMul, Nat.zero_mul, Value.cells, List.toList_toArray, zerosA, List.replicate, List.flatten, List.append_nil]; done)) ?_)
                    refine AO.nil ?_
                    refine AQ.thenN ?_
                    refine AW.ret ?_
                    refine AQ.g ?_
                    refine G.coeRow 0 (m.opts ++ maxO j).length (optsA (m.opts ++ maxO j)) rfl (by simp [maxO]) CoeL.refl ?_
                    refine AQ.u ?_
                    refine AQ.g ?_
                    refine G.freezeCell 0 0 4 rfl rfl rfl ?_
                    refine AQ.u ?_
                    refine AQ.retCell rfl rfl (by repeat (exact List.Mem.head _)) (by (dsimp only [List.set, List.append, List.cons_append, List.nil_append, roB_cells, roI_cells, roO_cells, splice, ofConst, AV.cells, List.map, List.map_cons, List.map_nil, List.take, List.drop, Nat.zero_add, Nat.add_zero, Nat.reduceAdd, Nat.reduceMul, Nat.zero_mul, Value.cells, List.toList_toArray, zerosA, List.replicate, List.flatten, List.append_nil]; rfl)) rfl ⟨_, List.nil_sublist _, .nil⟩ (⟨⟨_, h.with (os := m.opts ++ maxO j) h1 h2 (by simp [maxO]; omega) (fun o ho => by rcases List.mem_append.1 ho with h9 | h9; exact .inl h9; exact .inr (maxO_mem h9)), rfl⟩, rfl⟩)
                · skip
                  refine AW.region ?_
                  refine AO.op (O.move rfl rfl) rfl rfl rfl ?_
                  refine AO.op (O.call rfl Try.func16 rfl rfl rfl (Dk.mod_fn _ _ (by omega) (by omega))) rfl rfl rfl ?_
                  refine AO.op (O.fieldAddr rfl rfl) rfl rfl rfl ?_
                  (refine AO.store (i := 2) rfl rfl rfl rfl rfl rfl (by rfl) (by rfl) (by rfl) (by (dsimp only [List.set, List.append, List.cons_append, List.nil_append, roB_cells, roI_cells, roO_cells, splice, ofConst, AV.cells, List.map, List.map_cons, List.map_nil, List.take, List.drop, Nat.zero_add, Nat.add_zero, Nat.reduceAdd, Nat.reduceMul, Nat.zero_mul, Value.cells, List.toList_toArray, zerosA, List.replicate, List.flatten, List.append_nil]; done)) (by (dsimp only [List.set, List.append, List.cons_append, List.nil_append, roB_cells, roI_cells, roO_cells, splice, ofConst, AV.cells, List.map, List.map_cons, List.map_nil, List.take, List.drop, Nat.zero_add, Nat.add_zero, Nat.reduceAdd, Nat.reduceMul, Nat.zero_mul, Value.cells, List.toList_toArray, zerosA, List.replicate, List.flatten, List.append_nil]; done)) ?_)
                  refine AO.op (O.fieldAddr rfl rfl) rfl rfl rfl ?_
                  (refine AO.store (i := 2) rfl rfl rfl rfl rfl rfl (by rfl) (by rfl) (by rfl) (by (dsimp only [List.set, List.append, List.cons_append, List.nil_append, roB_cells, roI_cells, roO_cells, splice, ofConst, AV.cells, List.map, List.map_cons, List.map_nil, List.take, List.drop, Nat.zero_add, Nat.add_zero, Nat.reduceAdd, Nat.reduceMul, Nat.zero_mul, Value.cells, List.toList_toArray, zerosA, List.replicate, List.flatten, List.append_nil]; done)) (by (dsimp only [List.set, List.append, List.cons_append, List.nil_append, roB_cells, roI_cells, roO_cells, splice, ofConst, AV.cells, List.map, List.map_cons, List.map_nil, List.take, List.drop, Nat.zero_add, Nat.add_zero, Nat.reduceAdd, Nat.reduceMul, Nat.zero_mul, Value.cells, List.toList_toArray, zerosA, List.replicate, List.flatten, List.append_nil]; done)) ?_)
                  refine AO.nil ?_
                  refine AQ.blockN ?_
                  refine AQ.thenN ?_
                  refine AW.seq ?_
                  refine AW.region ?_
                  (refine AO.op (O.loadK rfl rfl (by repeat (first | exact List.Mem.head _ | refine List.Mem.tail _ ?_)) (by (dsimp only [List.set, List.append, List.cons_append, List.nil_append, roB_cells, roI_cells, roO_cells, splice, ofConst, AV.cells, List.map, List.map_cons, List.map_nil, List.take, List.drop, Nat.zero_add, Nat.add_zero, Nat.reduceAdd, Nat.reduceMul, Nat.zero_mul, Value.cells, List.toList_toArray, zerosA, List.replicate, List.flatten, List.append_nil]; done)) (by rfl)) rfl rfl rfl ?_)
                  (refine AO.store (i := 1) rfl rfl rfl rfl rfl rfl (by (simp [AV.cells, AV.one, roB, roI, roO, show ∀ k z, (Value.int k z).oneCell' = true from fun _ _ => rfl, show ∀ k, (Value.bool k).oneCell' = true from fun _ => rfl, *]; done)) (by rfl) (by rfl) (by (dsimp only [List.set, List.append, List.cons_append, List.nil_append, roB_cells, roI_cells, roO_cells, splice, ofConst, AV.cells, List.map, List.map_cons, List.map_nil, List.take, List.drop, Nat.zero_add, Nat.add_zero, Nat.reduceAdd, Nat.reduceMul, Nat.zero_mul, Value.cells, List.toList_toArray, zerosA, List.replicate, List.flatten, List.append_nil]; done)) (by (dsimp only [List.set, List.append, List.cons_append, List.nil_append, roB_cells, roI_cells, roO_cells, splice, ofConst, AV.cells, List.map, List.map_cons, List.map_nil, List.take, List.drop, Nat.zero_add, Nat.add_zero, Nat.reduceAdd, Nat.reduceMul, Nat.zero_mul, Value.cells, List.toList_toArray, zerosA, List.replicate, List.flatten, List.append_nil]; done)) ?_)
                  refine AO.nil ?_
                  refine AQ.thenN ?_
                  refine AW.ret ?_
                  refine AQ.g ?_
                  refine G.freezeCell 0 0 4 rfl rfl rfl ?_
                  refine AQ.u ?_
                  refine AQ.retCell rfl rfl (by repeat (exact List.Mem.head _)) (by (dsimp only [List.set, List.append, List.cons_append, List.nil_append, roB_cells, roI_cells, roO_cells, splice, ofConst, AV.cells, List.map, List.map_cons, List.map_nil, List.take, List.drop, Nat.zero_add, Nat.add_zero, Nat.reduceAdd, Nat.reduceMul, Nat.zero_mul, Value.cells, List.toList_toArray, zerosA, List.replicate, List.flatten, List.append_nil]; rfl)) rfl ⟨_, List.nil_sublist _, .nil⟩ (⟨⟨_, h.with h1 h2 (by omega) (fun o ho => .inl ho), rfl⟩, rfl⟩)
end Go.Proofs.Ytiddmpmpjdnmeaa.By
