/-
  Layer 19: the registry that the laws make.
-/
import Derived.Test.YtlcoanbdaephiaaObN
namespace Go.Proofs.Ytlcoanbdaephiaa.Ob
open Go.RowKit L A Dk
set_option linter.unusedVariables false
set_option linter.unusedSimpArgs false
attribute [local irreducible] AW AQ AO

/-- The registrations, k to go. -/
def bLoop (l : List Int) : Nat → List Watch → Nat → List Watch × Nat
  | 0, L, a => (L, a)
  | k + 1, L, a => bLoop l k (if (regW L (nxt l a 5) [u8 (nxt l (adv l a) 5)] [u8 (nxt l (adv l (adv l a)) 4)] ((k : Int) + 1)).2 = 0 then (regW L (nxt l a 5) [u8 (nxt l (adv l a) 5)] [u8 (nxt l (adv l (adv l a)) 4)] ((k : Int) + 1)).1 else L) (adv l (adv l (adv l a)))
def seqV (z : Int) : Int := if z = 0 then 0 else if z = 1 then 1 else if z = 2 then 5 else 16777215
theorem seq_at {z : Int} (h : 0 ≤ z ∧ z < 4) : ([.val (.int .i64 0), .val (.int .i64 1), .val (.int .i64 5), .val (.int .i64 16777215)] : List AV)[z.toNat * 1]? = some (.val (.int .i64 (seqV z))) := by
  rcases (show z = 0 ∨ z = 1 ∨ z = 2 ∨ z = 3 by omega) with rfl | rfl | rfl | rfl <;> rfl
/-- The numbers, i done. -/
def sLoop (l : List Int) (L : List Watch) (a : Nat) : Nat → List Watch × Nat
  | 0 => (L, a)
  | i + 1 => ((sLoop l L a i).1.set i { wat (sLoop l L a i).1 i with seq := seqV (nxt l (sLoop l L a i).2 4) }, adv l (sLoop l L a i).2)
def regOf (l : List Int) (a : Nat) : List Watch × Nat :=
  let r := bLoop l (nxt l a 22).toNat [] (adv l a)
  sLoop l r.1 r.2 r.1.length

/-- What registries of the laws look like. -/
def Small (L : List Watch) : Prop := L.length ≤ 16 ∧ ∀ w ∈ L, w.tok.length = 1 ∧ w.key.length = 1
theorem Small.short {L : List Watch} (h : Small L) : Short L := ⟨by have := h.1; omega, fun w hw => by have := h.2 w hw; omega⟩
theorem Small.nil : Small [] := ⟨by simp, fun w hw => by cases hw⟩
theorem Small.reg {L : List Watch} (h : Small L) {p now : Int} {t k : UInt8} : Small (regW L p [t] [k] now).1 := by
  unfold regW
  split
  · exact .nil
  · split
    · exact .nil
    · refine ⟨by simp only [List.length_append, List.length_cons, List.length_nil]; omega, fun w hw => ?_⟩
      rcases List.mem_append.1 hw with hw | hw
      · exact h.2 w (List.mem_filter.1 hw).1
      · obtain rfl : w = _ := by simpa using hw
        exact ⟨rfl, rfl⟩
theorem Small.set {L : List Watch} (h : Small L) {i : Nat} {s : Int} (hi : i < L.length) : Small (L.set i { wat L i with seq := s }) := by
  refine ⟨by rw [List.length_set]; exact h.1, fun w hw => ?_⟩
  rcases List.mem_or_eq_of_mem_set hw with hw | rfl
  · exact h.2 w hw
  · have : wat L i = L[i] := by simp [wat, hi]
    rw [this]
    exact h.2 L[i] (List.getElem_mem hi)
theorem sLoop_len (l : List Int) (L : List Watch) (a : Nat) : ∀ i, (sLoop l L a i).1.length = L.length
  | 0 => rfl
  | i + 1 => by rw [sLoop, List.length_set]; exact sLoop_len l L a i
theorem sLoop_small (l : List Int) {L : List Watch} (h : Small L) (a : Nat) : ∀ i, i ≤ L.length → Small (sLoop l L a i).1
  | 0, _ => h
  | i + 1, hi => (sLoop_small l h a i (by omega)).set (by rw [sLoop_len]; omega)
theorem sLoop_adv {l : List Int} {L : List Watch} {a : Nat} (h : a ≤ l.length) : ∀ i, (sLoop l L a i).2 ≤ l.length
  | 0 => h
  | i + 1 => adv_le' (sLoop_adv h i)
theorem bLoop_small (l : List Int) : ∀ k {L : List Watch} {a : Nat}, Small L → a ≤ l.length → Small (bLoop l k L a).1 ∧ (bLoop l k L a).2 ≤ l.length
  | 0, L, a, h, ha => ⟨h, ha⟩
  | k + 1, L, a, h, ha => by
    refine bLoop_small l k ?_ (adv_le' (adv_le' (adv_le' ha)))
    split
    · exact h.reg
    · exact h
theorem regOf_small (l : List Int) {a : Nat} (ha : a ≤ l.length) : Small (regOf l a).1 := sLoop_small l (bLoop_small l _ .nil (adv_le' ha)).1 _ _ (Nat.le_refl _)
theorem regOf_adv (l : List Int) {a : Nat} (ha : a ≤ l.length) : (regOf l a).2 ≤ l.length := sLoop_adv (bLoop_small l _ .nil (adv_le' ha)).2 _

theorem watchesA_set : ∀ (M : List Watch) (i : Nat) (s : Int), i < M.length → (watchesA M).set (i * 5 + 3) (.val (.int .i64 s)) = watchesA (M.set i { wat M i with seq := s })
  | [], i, s, h => by simp at h
  | w :: M, 0, s, h => by rw [watchesA_cons]; rfl
  | w :: M, i + 1, s, h => by
    rw [watchesA_cons, List.set_cons_succ, watchesA_cons, show wat (w :: M) (i + 1) = wat M i by simp [wat], ← watchesA_set M i s (by simpa using h), show (i + 1) * 5 + 3 = (i * 5 + 3) + 5 by omega]
    rfl
theorem spliceW {M : List Watch} {i : Nat} {s : Int} (h : i < M.length) : splice (watchesA M) (0 + Int.toNat (i : Int) * 5 + 3) [.val (.int .i64 s)] = watchesA (M.set i { wat M i with seq := s }) := by
  rw [Nat.zero_add]; exact watchesA_set M i s h

set_option maxHeartbeats 2000000 in
theorem registry_fn (b : Nat) (l : List Int) (a : Nat) (hl : l.length ≤ maxLen) (ha : a ≤ l.length) :
    Sp Try.prog 12 [ptr b] [deck b l a] (IsM (roW (regOf l a).1) (deck b l (regOf l a).2)) := by
  have n0 := nxt_in l a (n := 22) (by omega)
  have ha1 := adv_le' ha
  refine Sp.enter Try.func12 rfl _ Try.ntmps12 rfl (fun w0 R0 => ?_)
  refine AW.seq ?_
  refine AW.region ?_
  refine AO.op (O.assign rfl rfl) rfl rfl rfl ?_
  refine AO.nil ?_
  refine AQ.thenN ?_
  refine AW.seq ?_
  refine AW.region ?_
  refine AO.op (O.assign rfl rfl) rfl rfl rfl ?_
  refine AO.nil ?_
  refine AQ.thenN ?_
  refine AW.seq ?_
  refine AW.seq ?_
  refine AW.region ?_
  refine AO.op (O.move rfl rfl) rfl rfl rfl ?_
  first | (refine AO.callM1 (i := 0) rfl rfl Try.func25 rfl rfl rfl rfl rfl rfl (next_fn _ _ _ _ hl (by repeat (first | assumption | refine adv_le' ?_)) (by omega) (by omega)) (by first | (dsimp only [List.set, List.append, List.cons_append, List.nil_append, splice, AV.cells, List.map, List.map_cons, List.map_nil, List.take, List.drop, Nat.zero_add, Nat.add_zero, Nat.reduceAdd, Nat.reduceMul, Nat.zero_mul, Value.cells, List.toList_toArray, zerosA, List.replicate, List.flatten, List.append_nil]; rfl) | (dsimp only [List.set, List.append, List.cons_append, List.nil_append, splice, AV.cells, List.map, List.map_cons, List.map_nil, List.take, List.drop, Nat.zero_add, Nat.add_zero, Nat.reduceAdd, Nat.reduceMul, Nat.zero_mul, Value.cells, List.toList_toArray, zerosA, List.replicate, List.flatten, List.append_nil]; done) | rfl) ?_) | (refine AO.callM1 (i := 1) rfl rfl Try.func25 rfl rfl rfl rfl rfl rfl (next_fn _ _ _ _ hl (by repeat (first | assumption | refine adv_le' ?_)) (by omega) (by omega)) (by first | (dsimp only [List.set, List.append, List.cons_append, List.nil_append, splice, AV.cells, List.map, List.map_cons, List.map_nil, List.take, List.drop, Nat.zero_add, Nat.add_zero, Nat.reduceAdd, Nat.reduceMul, Nat.zero_mul, Value.cells, List.toList_toArray, zerosA, List.replicate, List.flatten, List.append_nil]; rfl) | (dsimp only [List.set, List.append, List.cons_append, List.nil_append, splice, AV.cells, List.map, List.map_cons, List.map_nil, List.take, List.drop, Nat.zero_add, Nat.add_zero, Nat.reduceAdd, Nat.reduceMul, Nat.zero_mul, Value.cells, List.toList_toArray, zerosA, List.replicate, List.flatten, List.append_nil]; done) | rfl) ?_) | (refine AO.callM1 (i := 2) rfl rfl Try.func25 rfl rfl rfl rfl rfl rfl (next_fn _ _ _ _ hl (by repeat (first | assumption | refine adv_le' ?_)) (by omega) (by omega)) (by first | (dsimp only [List.set, List.append, List.cons_append, List.nil_append, splice, AV.cells, List.map, List.map_cons, List.map_nil, List.take, List.drop, Nat.zero_add, Nat.add_zero, Nat.reduceAdd, Nat.reduceMul, Nat.zero_mul, Value.cells, List.toList_toArray, zerosA, List.replicate, List.flatten, List.append_nil]; rfl) | (dsimp only [List.set, List.append, List.cons_append, List.nil_append, splice, AV.cells, List.map, List.map_cons, List.map_nil, List.take, List.drop, Nat.zero_add, Nat.add_zero, Nat.reduceAdd, Nat.reduceMul, Nat.zero_mul, Value.cells, List.toList_toArray, zerosA, List.replicate, List.flatten, List.append_nil]; done) | rfl) ?_) | (refine AO.callM1 (i := 3) rfl rfl Try.func25 rfl rfl rfl rfl rfl rfl (next_fn _ _ _ _ hl (by repeat (first | assumption | refine adv_le' ?_)) (by omega) (by omega)) (by first | (dsimp only [List.set, List.append, List.cons_append, List.nil_append, splice, AV.cells, List.map, List.map_cons, List.map_nil, List.take, List.drop, Nat.zero_add, Nat.add_zero, Nat.reduceAdd, Nat.reduceMul, Nat.zero_mul, Value.cells, List.toList_toArray, zerosA, List.replicate, List.flatten, List.append_nil]; rfl) | (dsimp only [List.set, List.append, List.cons_append, List.nil_append, splice, AV.cells, List.map, List.map_cons, List.map_nil, List.take, List.drop, Nat.zero_add, Nat.add_zero, Nat.reduceAdd, Nat.reduceMul, Nat.zero_mul, Value.cells, List.toList_toArray, zerosA, List.replicate, List.flatten, List.append_nil]; done) | rfl) ?_) | (refine AO.callM1 (i := 4) rfl rfl Try.func25 rfl rfl rfl rfl rfl rfl (next_fn _ _ _ _ hl (by repeat (first | assumption | refine adv_le' ?_)) (by omega) (by omega)) (by first | (dsimp only [List.set, List.append, List.cons_append, List.nil_append, splice, AV.cells, List.map, List.map_cons, List.map_nil, List.take, List.drop, Nat.zero_add, Nat.add_zero, Nat.reduceAdd, Nat.reduceMul, Nat.zero_mul, Value.cells, List.toList_toArray, zerosA, List.replicate, List.flatten, List.append_nil]; rfl) | (dsimp only [List.set, List.append, List.cons_append, List.nil_append, splice, AV.cells, List.map, List.map_cons, List.map_nil, List.take, List.drop, Nat.zero_add, Nat.add_zero, Nat.reduceAdd, Nat.reduceMul, Nat.zero_mul, Value.cells, List.toList_toArray, zerosA, List.replicate, List.flatten, List.append_nil]; done) | rfl) ?_) | (refine AO.callM1 (i := 5) rfl rfl Try.func25 rfl rfl rfl rfl rfl rfl (next_fn _ _ _ _ hl (by repeat (first | assumption | refine adv_le' ?_)) (by omega) (by omega)) (by first | (dsimp only [List.set, List.append, List.cons_append, List.nil_append, splice, AV.cells, List.map, List.map_cons, List.map_nil, List.take, List.drop, Nat.zero_add, Nat.add_zero, Nat.reduceAdd, Nat.reduceMul, Nat.zero_mul, Value.cells, List.toList_toArray, zerosA, List.replicate, List.flatten, List.append_nil]; rfl) | (dsimp only [List.set, List.append, List.cons_append, List.nil_append, splice, AV.cells, List.map, List.map_cons, List.map_nil, List.take, List.drop, Nat.zero_add, Nat.add_zero, Nat.reduceAdd, Nat.reduceMul, Nat.zero_mul, Value.cells, List.toList_toArray, zerosA, List.replicate, List.flatten, List.append_nil]; done) | rfl) ?_)
  refine AO.op (O.assign rfl rfl) rfl rfl rfl ?_
  refine AO.nil ?_
  refine AQ.thenN ?_
  refine AW.block ?_
  refine AW.g ?_
  refine G.nilRow 58 5 ?_
  refine AW.u ?_
  refine AW.loop (fun n E H => ∃ (k : Nat) (L : List Watch) (a' : Nat) (V : Value), k ≤ 21 ∧ Small L ∧ a' ≤ l.length ∧ V.oneCell' = true ∧ bLoop l k L a' = bLoop l (nxt l a 22).toNat [] (adv l a) ∧ k = n ∧ E = [(0, ptr b), (3, .val V), (4, .val (.int .i64 (k : Int)))] ∧ H = [rowW V L, deck b l a']) ((nxt l a 22).toNat) (⟨(nxt l a 22).toNat, [], adv l a, .slice none 0 0, by omega, .nil, ha1, rfl, rfl, rfl, by rw [Int.toNat_of_nonneg n0.1], rfl⟩) (by repeat (first | exact envNil | refine envCons rfl ?_)) ⟨_, by repeat (first | exact List.Sublist.slnil | refine List.Sublist.cons_cons _ ?_ | refine List.Sublist.cons _ ?_), List.Perm.refl _⟩ ?_
  rintro n E H ⟨k, L, a', V0, hk, hsm, ha', hV0, hb, rfl, rfl, rfl⟩
  refine AW.seq ?_
  refine AW.seq ?_
  refine AW.region ?_
  refine AO.op (O.move rfl rfl) rfl rfl rfl ?_
  refine AO.op (O.gtr rfl rfl rfl (by first | exact bTrue (by omega) | exact bFalse (by omega) | assumption | rfl)) rfl rfl rfl ?_
  refine AO.nil ?_
  refine AQ.thenN ?_
  refine AW.split rfl (fun hpos => ?_) (fun hpos => ?_)
  · skip
    have hpos : 0 < (k : Int) := of_decide_eq_true hpos
    obtain ⟨j, rfl⟩ : ∃ j, k = j + 1 := ⟨k - 1, by omega⟩
    have n1 := nxt_in l a' (n := 5) (by omega)
    have n2 := nxt_in l (adv l a') (n := 5) (by omega)
    have n3 := nxt_in l (adv l (adv l a')) (n := 4) (by omega)
    have ha'' := adv_le' (adv_le' (adv_le' ha'))
    refine AW.skip ?_
    refine AQ.thenN ?_
    refine AW.seq ?_
    refine AW.block ?_
    refine AW.seq ?_
    refine AW.region ?_
    refine AO.op (O.move rfl rfl) rfl rfl rfl ?_
    refine AO.op (O.move rfl rfl) rfl rfl rfl ?_
    first | (refine AO.callM1 (i := 0) rfl rfl Try.func25 rfl rfl rfl rfl rfl rfl (next_fn _ _ _ _ hl (by repeat (first | assumption | refine adv_le' ?_)) (by omega) (by omega)) (by first | (dsimp only [List.set, List.append, List.cons_append, List.nil_append, splice, AV.cells, List.map, List.map_cons, List.map_nil, List.take, List.drop, Nat.zero_add, Nat.add_zero, Nat.reduceAdd, Nat.reduceMul, Nat.zero_mul, Value.cells, List.toList_toArray, zerosA, List.replicate, List.flatten, List.append_nil]; rfl) | (dsimp only [List.set, List.append, List.cons_append, List.nil_append, splice, AV.cells, List.map, List.map_cons, List.map_nil, List.take, List.drop, Nat.zero_add, Nat.add_zero, Nat.reduceAdd, Nat.reduceMul, Nat.zero_mul, Value.cells, List.toList_toArray, zerosA, List.replicate, List.flatten, List.append_nil]; done) | rfl) ?_) | (refine AO.callM1 (i := 1) rfl rfl Try.func25 rfl rfl rfl rfl rfl rfl (next_fn _ _ _ _ hl (by repeat (first | assumption | refine adv_le' ?_)) (by omega) (by omega)) (by first | (dsimp only [List.set, List.append, List.cons_append, List.nil_append, splice, AV.cells, List.map, List.map_cons, List.map_nil, List.take, List.drop, Nat.zero_add, Nat.add_zero, Nat.reduceAdd, Nat.reduceMul, Nat.zero_mul, Value.cells, List.toList_toArray, zerosA, List.replicate, List.flatten, List.append_nil]; rfl) | (dsimp only [List.set, List.append, List.cons_append, List.nil_append, splice, AV.cells, List.map, List.map_cons, List.map_nil, List.take, List.drop, Nat.zero_add, Nat.add_zero, Nat.reduceAdd, Nat.reduceMul, Nat.zero_mul, Value.cells, List.toList_toArray, zerosA, List.replicate, List.flatten, List.append_nil]; done) | rfl) ?_) | (refine AO.callM1 (i := 2) rfl rfl Try.func25 rfl rfl rfl rfl rfl rfl (next_fn _ _ _ _ hl (by repeat (first | assumption | refine adv_le' ?_)) (by omega) (by omega)) (by first | (dsimp only [List.set, List.append, List.cons_append, List.nil_append, splice, AV.cells, List.map, List.map_cons, List.map_nil, List.take, List.drop, Nat.zero_add, Nat.add_zero, Nat.reduceAdd, Nat.reduceMul, Nat.zero_mul, Value.cells, List.toList_toArray, zerosA, List.replicate, List.flatten, List.append_nil]; rfl) | (dsimp only [List.set, List.append, List.cons_append, List.nil_append, splice, AV.cells, List.map, List.map_cons, List.map_nil, List.take, List.drop, Nat.zero_add, Nat.add_zero, Nat.reduceAdd, Nat.reduceMul, Nat.zero_mul, Value.cells, List.toList_toArray, zerosA, List.replicate, List.flatten, List.append_nil]; done) | rfl) ?_) | (refine AO.callM1 (i := 3) rfl rfl Try.func25 rfl rfl rfl rfl rfl rfl (next_fn _ _ _ _ hl (by repeat (first | assumption | refine adv_le' ?_)) (by omega) (by omega)) (by first | (dsimp only [List.set, List.append, List.cons_append, List.nil_append, splice, AV.cells, List.map, List.map_cons, List.map_nil, List.take, List.drop, Nat.zero_add, Nat.add_zero, Nat.reduceAdd, Nat.reduceMul, Nat.zero_mul, Value.cells, List.toList_toArray, zerosA, List.replicate, List.flatten, List.append_nil]; rfl) | (dsimp only [List.set, List.append, List.cons_append, List.nil_append, splice, AV.cells, List.map, List.map_cons, List.map_nil, List.take, List.drop, Nat.zero_add, Nat.add_zero, Nat.reduceAdd, Nat.reduceMul, Nat.zero_mul, Value.cells, List.toList_toArray, zerosA, List.replicate, List.flatten, List.append_nil]; done) | rfl) ?_) | (refine AO.callM1 (i := 4) rfl rfl Try.func25 rfl rfl rfl rfl rfl rfl (next_fn _ _ _ _ hl (by repeat (first | assumption | refine adv_le' ?_)) (by omega) (by omega)) (by first | (dsimp only [List.set, List.append, List.cons_append, List.nil_append, splice, AV.cells, List.map, List.map_cons, List.map_nil, List.take, List.drop, Nat.zero_add, Nat.add_zero, Nat.reduceAdd, Nat.reduceMul, Nat.zero_mul, Value.cells, List.toList_toArray, zerosA, List.replicate, List.flatten, List.append_nil]; rfl) | (dsimp only [List.set, List.append, List.cons_append, List.nil_append, splice, AV.cells, List.map, List.map_cons, List.map_nil, List.take, List.drop, Nat.zero_add, Nat.add_zero, Nat.reduceAdd, Nat.reduceMul, Nat.zero_mul, Value.cells, List.toList_toArray, zerosA, List.replicate, List.flatten, List.append_nil]; done) | rfl) ?_) | (refine AO.callM1 (i := 5) rfl rfl Try.func25 rfl rfl rfl rfl rfl rfl (next_fn _ _ _ _ hl (by repeat (first | assumption | refine adv_le' ?_)) (by omega) (by omega)) (by first | (dsimp only [List.set, List.append, List.cons_append, List.nil_append, splice, AV.cells, List.map, List.map_cons, List.map_nil, List.take, List.drop, Nat.zero_add, Nat.add_zero, Nat.reduceAdd, Nat.reduceMul, Nat.zero_mul, Value.cells, List.toList_toArray, zerosA, List.replicate, List.flatten, List.append_nil]; rfl) | (dsimp only [List.set, List.append, List.cons_append, List.nil_append, splice, AV.cells, List.map, List.map_cons, List.map_nil, List.take, List.drop, Nat.zero_add, Nat.add_zero, Nat.reduceAdd, Nat.reduceMul, Nat.zero_mul, Value.cells, List.toList_toArray, zerosA, List.replicate, List.flatten, List.append_nil]; done) | rfl) ?_)
    refine AO.op (O.move rfl rfl) rfl rfl rfl ?_
    first | (refine AO.callM1 (i := 0) rfl rfl Try.func25 rfl rfl rfl rfl rfl rfl (next_fn _ _ _ _ hl (by repeat (first | assumption | refine adv_le' ?_)) (by omega) (by omega)) (by first | (dsimp only [List.set, List.append, List.cons_append, List.nil_append, splice, AV.cells, List.map, List.map_cons, List.map_nil, List.take, List.drop, Nat.zero_add, Nat.add_zero, Nat.reduceAdd, Nat.reduceMul, Nat.zero_mul, Value.cells, List.toList_toArray, zerosA, List.replicate, List.flatten, List.append_nil]; rfl) | (dsimp only [List.set, List.append, List.cons_append, List.nil_append, splice, AV.cells, List.map, List.map_cons, List.map_nil, List.take, List.drop, Nat.zero_add, Nat.add_zero, Nat.reduceAdd, Nat.reduceMul, Nat.zero_mul, Value.cells, List.toList_toArray, zerosA, List.replicate, List.flatten, List.append_nil]; done) | rfl) ?_) | (refine AO.callM1 (i := 1) rfl rfl Try.func25 rfl rfl rfl rfl rfl rfl (next_fn _ _ _ _ hl (by repeat (first | assumption | refine adv_le' ?_)) (by omega) (by omega)) (by first | (dsimp only [List.set, List.append, List.cons_append, List.nil_append, splice, AV.cells, List.map, List.map_cons, List.map_nil, List.take, List.drop, Nat.zero_add, Nat.add_zero, Nat.reduceAdd, Nat.reduceMul, Nat.zero_mul, Value.cells, List.toList_toArray, zerosA, List.replicate, List.flatten, List.append_nil]; rfl) | (dsimp only [List.set, List.append, List.cons_append, List.nil_append, splice, AV.cells, List.map, List.map_cons, List.map_nil, List.take, List.drop, Nat.zero_add, Nat.add_zero, Nat.reduceAdd, Nat.reduceMul, Nat.zero_mul, Value.cells, List.toList_toArray, zerosA, List.replicate, List.flatten, List.append_nil]; done) | rfl) ?_) | (refine AO.callM1 (i := 2) rfl rfl Try.func25 rfl rfl rfl rfl rfl rfl (next_fn _ _ _ _ hl (by repeat (first | assumption | refine adv_le' ?_)) (by omega) (by omega)) (by first | (dsimp only [List.set, List.append, List.cons_append, List.nil_append, splice, AV.cells, List.map, List.map_cons, List.map_nil, List.take, List.drop, Nat.zero_add, Nat.add_zero, Nat.reduceAdd, Nat.reduceMul, Nat.zero_mul, Value.cells, List.toList_toArray, zerosA, List.replicate, List.flatten, List.append_nil]; rfl) | (dsimp only [List.set, List.append, List.cons_append, List.nil_append, splice, AV.cells, List.map, List.map_cons, List.map_nil, List.take, List.drop, Nat.zero_add, Nat.add_zero, Nat.reduceAdd, Nat.reduceMul, Nat.zero_mul, Value.cells, List.toList_toArray, zerosA, List.replicate, List.flatten, List.append_nil]; done) | rfl) ?_) | (refine AO.callM1 (i := 3) rfl rfl Try.func25 rfl rfl rfl rfl rfl rfl (next_fn _ _ _ _ hl (by repeat (first | assumption | refine adv_le' ?_)) (by omega) (by omega)) (by first | (dsimp only [List.set, List.append, List.cons_append, List.nil_append, splice, AV.cells, List.map, List.map_cons, List.map_nil, List.take, List.drop, Nat.zero_add, Nat.add_zero, Nat.reduceAdd, Nat.reduceMul, Nat.zero_mul, Value.cells, List.toList_toArray, zerosA, List.replicate, List.flatten, List.append_nil]; rfl) | (dsimp only [List.set, List.append, List.cons_append, List.nil_append, splice, AV.cells, List.map, List.map_cons, List.map_nil, List.take, List.drop, Nat.zero_add, Nat.add_zero, Nat.reduceAdd, Nat.reduceMul, Nat.zero_mul, Value.cells, List.toList_toArray, zerosA, List.replicate, List.flatten, List.append_nil]; done) | rfl) ?_) | (refine AO.callM1 (i := 4) rfl rfl Try.func25 rfl rfl rfl rfl rfl rfl (next_fn _ _ _ _ hl (by repeat (first | assumption | refine adv_le' ?_)) (by omega) (by omega)) (by first | (dsimp only [List.set, List.append, List.cons_append, List.nil_append, splice, AV.cells, List.map, List.map_cons, List.map_nil, List.take, List.drop, Nat.zero_add, Nat.add_zero, Nat.reduceAdd, Nat.reduceMul, Nat.zero_mul, Value.cells, List.toList_toArray, zerosA, List.replicate, List.flatten, List.append_nil]; rfl) | (dsimp only [List.set, List.append, List.cons_append, List.nil_append, splice, AV.cells, List.map, List.map_cons, List.map_nil, List.take, List.drop, Nat.zero_add, Nat.add_zero, Nat.reduceAdd, Nat.reduceMul, Nat.zero_mul, Value.cells, List.toList_toArray, zerosA, List.replicate, List.flatten, List.append_nil]; done) | rfl) ?_) | (refine AO.callM1 (i := 5) rfl rfl Try.func25 rfl rfl rfl rfl rfl rfl (next_fn _ _ _ _ hl (by repeat (first | assumption | refine adv_le' ?_)) (by omega) (by omega)) (by first | (dsimp only [List.set, List.append, List.cons_append, List.nil_append, splice, AV.cells, List.map, List.map_cons, List.map_nil, List.take, List.drop, Nat.zero_add, Nat.add_zero, Nat.reduceAdd, Nat.reduceMul, Nat.zero_mul, Value.cells, List.toList_toArray, zerosA, List.replicate, List.flatten, List.append_nil]; rfl) | (dsimp only [List.set, List.append, List.cons_append, List.nil_append, splice, AV.cells, List.map, List.map_cons, List.map_nil, List.take, List.drop, Nat.zero_add, Nat.add_zero, Nat.reduceAdd, Nat.reduceMul, Nat.zero_mul, Value.cells, List.toList_toArray, zerosA, List.replicate, List.flatten, List.append_nil]; done) | rfl) ?_)
    refine AO.op (O.conv rfl rfl wU8any) rfl rfl rfl ?_
    refine AO.opB (O.buildSlice rfl rfl rfl (by rfl) (by rfl) (by rfl) (by rfl)) rfl rfl rfl ?_
    intro B
    refine AO.g ?_
    first | (refine G.freezeSl 0 21 rfl rfl ⟨Nat.le_refl _, by unfold maxLen; omega⟩ ?_) | (refine G.freezeSl 1 21 rfl rfl ⟨Nat.le_refl _, by unfold maxLen; omega⟩ ?_) | (refine G.freezeSl 2 21 rfl rfl ⟨Nat.le_refl _, by unfold maxLen; omega⟩ ?_) | (refine G.freezeSl 3 21 rfl rfl ⟨Nat.le_refl _, by unfold maxLen; omega⟩ ?_) | (refine G.freezeSl 4 21 rfl rfl ⟨Nat.le_refl _, by unfold maxLen; omega⟩ ?_) | (refine G.freezeSl 5 21 rfl rfl ⟨Nat.le_refl _, by unfold maxLen; omega⟩ ?_)
    refine G.unfull 21 rfl ?_
    refine AO.u ?_
    dsimp only [List.eraseIdx]
    refine AO.op (O.move rfl rfl) rfl rfl rfl ?_
    first | (refine AO.callM1 (i := 0) rfl rfl Try.func25 rfl rfl rfl rfl rfl rfl (next_fn _ _ _ _ hl (by repeat (first | assumption | refine adv_le' ?_)) (by omega) (by omega)) (by first | (dsimp only [List.set, List.append, List.cons_append, List.nil_append, splice, AV.cells, List.map, List.map_cons, List.map_nil, List.take, List.drop, Nat.zero_add, Nat.add_zero, Nat.reduceAdd, Nat.reduceMul, Nat.zero_mul, Value.cells, List.toList_toArray, zerosA, List.replicate, List.flatten, List.append_nil]; rfl) | (dsimp only [List.set, List.append, List.cons_append, List.nil_append, splice, AV.cells, List.map, List.map_cons, List.map_nil, List.take, List.drop, Nat.zero_add, Nat.add_zero, Nat.reduceAdd, Nat.reduceMul, Nat.zero_mul, Value.cells, List.toList_toArray, zerosA, List.replicate, List.flatten, List.append_nil]; done) | rfl) ?_) | (refine AO.callM1 (i := 1) rfl rfl Try.func25 rfl rfl rfl rfl rfl rfl (next_fn _ _ _ _ hl (by repeat (first | assumption | refine adv_le' ?_)) (by omega) (by omega)) (by first | (dsimp only [List.set, List.append, List.cons_append, List.nil_append, splice, AV.cells, List.map, List.map_cons, List.map_nil, List.take, List.drop, Nat.zero_add, Nat.add_zero, Nat.reduceAdd, Nat.reduceMul, Nat.zero_mul, Value.cells, List.toList_toArray, zerosA, List.replicate, List.flatten, List.append_nil]; rfl) | (dsimp only [List.set, List.append, List.cons_append, List.nil_append, splice, AV.cells, List.map, List.map_cons, List.map_nil, List.take, List.drop, Nat.zero_add, Nat.add_zero, Nat.reduceAdd, Nat.reduceMul, Nat.zero_mul, Value.cells, List.toList_toArray, zerosA, List.replicate, List.flatten, List.append_nil]; done) | rfl) ?_) | (refine AO.callM1 (i := 2) rfl rfl Try.func25 rfl rfl rfl rfl rfl rfl (next_fn _ _ _ _ hl (by repeat (first | assumption | refine adv_le' ?_)) (by omega) (by omega)) (by first | (dsimp only [List.set, List.append, List.cons_append, List.nil_append, splice, AV.cells, List.map, List.map_cons, List.map_nil, List.take, List.drop, Nat.zero_add, Nat.add_zero, Nat.reduceAdd, Nat.reduceMul, Nat.zero_mul, Value.cells, List.toList_toArray, zerosA, List.replicate, List.flatten, List.append_nil]; rfl) | (dsimp only [List.set, List.append, List.cons_append, List.nil_append, splice, AV.cells, List.map, List.map_cons, List.map_nil, List.take, List.drop, Nat.zero_add, Nat.add_zero, Nat.reduceAdd, Nat.reduceMul, Nat.zero_mul, Value.cells, List.toList_toArray, zerosA, List.replicate, List.flatten, List.append_nil]; done) | rfl) ?_) | (refine AO.callM1 (i := 3) rfl rfl Try.func25 rfl rfl rfl rfl rfl rfl (next_fn _ _ _ _ hl (by repeat (first | assumption | refine adv_le' ?_)) (by omega) (by omega)) (by first | (dsimp only [List.set, List.append, List.cons_append, List.nil_append, splice, AV.cells, List.map, List.map_cons, List.map_nil, List.take, List.drop, Nat.zero_add, Nat.add_zero, Nat.reduceAdd, Nat.reduceMul, Nat.zero_mul, Value.cells, List.toList_toArray, zerosA, List.replicate, List.flatten, List.append_nil]; rfl) | (dsimp only [List.set, List.append, List.cons_append, List.nil_append, splice, AV.cells, List.map, List.map_cons, List.map_nil, List.take, List.drop, Nat.zero_add, Nat.add_zero, Nat.reduceAdd, Nat.reduceMul, Nat.zero_mul, Value.cells, List.toList_toArray, zerosA, List.replicate, List.flatten, List.append_nil]; done) | rfl) ?_) | (refine AO.callM1 (i := 4) rfl rfl Try.func25 rfl rfl rfl rfl rfl rfl (next_fn _ _ _ _ hl (by repeat (first | assumption | refine adv_le' ?_)) (by omega) (by omega)) (by first | (dsimp only [List.set, List.append, List.cons_append, List.nil_append, splice, AV.cells, List.map, List.map_cons, List.map_nil, List.take, List.drop, Nat.zero_add, Nat.add_zero, Nat.reduceAdd, Nat.reduceMul, Nat.zero_mul, Value.cells, List.toList_toArray, zerosA, List.replicate, List.flatten, List.append_nil]; rfl) | (dsimp only [List.set, List.append, List.cons_append, List.nil_append, splice, AV.cells, List.map, List.map_cons, List.map_nil, List.take, List.drop, Nat.zero_add, Nat.add_zero, Nat.reduceAdd, Nat.reduceMul, Nat.zero_mul, Value.cells, List.toList_toArray, zerosA, List.replicate, List.flatten, List.append_nil]; done) | rfl) ?_) | (refine AO.callM1 (i := 5) rfl rfl Try.func25 rfl rfl rfl rfl rfl rfl (next_fn _ _ _ _ hl (by repeat (first | assumption | refine adv_le' ?_)) (by omega) (by omega)) (by first | (dsimp only [List.set, List.append, List.cons_append, List.nil_append, splice, AV.cells, List.map, List.map_cons, List.map_nil, List.take, List.drop, Nat.zero_add, Nat.add_zero, Nat.reduceAdd, Nat.reduceMul, Nat.zero_mul, Value.cells, List.toList_toArray, zerosA, List.replicate, List.flatten, List.append_nil]; rfl) | (dsimp only [List.set, List.append, List.cons_append, List.nil_append, splice, AV.cells, List.map, List.map_cons, List.map_nil, List.take, List.drop, Nat.zero_add, Nat.add_zero, Nat.reduceAdd, Nat.reduceMul, Nat.zero_mul, Value.cells, List.toList_toArray, zerosA, List.replicate, List.flatten, List.append_nil]; done) | rfl) ?_)
    refine AO.op (O.conv rfl rfl wU8any) rfl rfl rfl ?_
    refine AO.opB (O.buildSlice rfl rfl rfl (by rfl) (by rfl) (by rfl) (by rfl)) rfl rfl rfl ?_
    intro B
    refine AO.g ?_
    first | (refine G.freezeSl 0 25 rfl rfl ⟨Nat.le_refl _, by unfold maxLen; omega⟩ ?_) | (refine G.freezeSl 1 25 rfl rfl ⟨Nat.le_refl _, by unfold maxLen; omega⟩ ?_) | (refine G.freezeSl 2 25 rfl rfl ⟨Nat.le_refl _, by unfold maxLen; omega⟩ ?_) | (refine G.freezeSl 3 25 rfl rfl ⟨Nat.le_refl _, by unfold maxLen; omega⟩ ?_) | (refine G.freezeSl 4 25 rfl rfl ⟨Nat.le_refl _, by unfold maxLen; omega⟩ ?_) | (refine G.freezeSl 5 25 rfl rfl ⟨Nat.le_refl _, by unfold maxLen; omega⟩ ?_)
    refine G.unfull 25 rfl ?_
    refine AO.u ?_
    dsimp only [List.eraseIdx]
    refine AO.op (O.move rfl rfl) rfl rfl rfl ?_
    first | (refine AO.callMG 0 rfl rfl Try.func19 rfl rfl rfl rfl rfl rfl (rregister_own _ (by assumption) _ hsm.short (nxt l a' 5) [u8 (nxt l (adv l a') 5)] [u8 (nxt l (adv l (adv l a')) 4)] _ (by simp) (by simp)) ?_) | (refine AO.callMG 1 rfl rfl Try.func19 rfl rfl rfl rfl rfl rfl (rregister_own _ (by assumption) _ hsm.short (nxt l a' 5) [u8 (nxt l (adv l a') 5)] [u8 (nxt l (adv l (adv l a')) 4)] _ (by simp) (by simp)) ?_) | (refine AO.callMG 2 rfl rfl Try.func19 rfl rfl rfl rfl rfl rfl (rregister_own _ (by assumption) _ hsm.short (nxt l a' 5) [u8 (nxt l (adv l a') 5)] [u8 (nxt l (adv l (adv l a')) 4)] _ (by simp) (by simp)) ?_) | (refine AO.callMG 3 rfl rfl Try.func19 rfl rfl rfl rfl rfl rfl (rregister_own _ (by assumption) _ hsm.short (nxt l a' 5) [u8 (nxt l (adv l a') 5)] [u8 (nxt l (adv l (adv l a')) 4)] _ (by simp) (by simp)) ?_) | (refine AO.callMG 4 rfl rfl Try.func19 rfl rfl rfl rfl rfl rfl (rregister_own _ (by assumption) _ hsm.short (nxt l a' 5) [u8 (nxt l (adv l a') 5)] [u8 (nxt l (adv l (adv l a')) 4)] _ (by simp) (by simp)) ?_) | (refine AO.callMG 5 rfl rfl Try.func19 rfl rfl rfl rfl rfl rfl (rregister_own _ (by assumption) _ hsm.short (nxt l a' 5) [u8 (nxt l (adv l a') 5)] [u8 (nxt l (adv l (adv l a')) 4)] _ (by simp) (by simp)) ?_)
    rintro _ _ ⟨V, hV, rfl, rfl⟩
    dsimp only [List.cons_append, List.nil_append, List.eraseIdx]
    refine AO.op (O.move rfl rfl) rfl rfl rfl ?_
    first | (refine AO.op (O.extract rfl rfl rfl) rfl rfl rfl ?_) | (refine AO.op (O.extractV rfl rfl rfl) rfl rfl rfl ?_)
    first | (refine AO.op (O.extract rfl rfl rfl) rfl rfl rfl ?_) | (refine AO.op (O.extractV rfl rfl rfl) rfl rfl rfl ?_)
    refine AO.op (O.assign rfl rfl) rfl rfl rfl ?_
    refine AO.op (O.assign rfl rfl) rfl rfl rfl ?_
    refine AO.nil ?_
    refine AQ.thenN ?_
    refine AW.seq ?_
    refine AW.region ?_
    refine AO.op (O.move rfl rfl) rfl rfl rfl ?_
    refine AO.op (O.eql rfl rfl rfl (by first | exact beq_iff_eq.2 (by omega) | exact beq_eq_false_iff_ne.2 (by omega) | assumption | rfl)) rfl rfl rfl ?_
    refine AO.nil ?_
    refine AQ.thenN ?_
    refine AW.split rfl (fun he => ?_) (fun he => ?_)
    · skip
      have he : (regW L (nxt l a' 5) [u8 (nxt l (adv l a') 5)] [u8 (nxt l (adv l (adv l a')) 4)] ((j : Int) + 1)).2 = 0 := by simpa using he
      rw [bLoop, if_pos he] at hb
      refine AW.region ?_
      refine AO.op (O.move rfl rfl) rfl rfl rfl ?_
      refine AO.op (O.assign rfl rfl) rfl rfl rfl ?_
      refine AO.nil ?_
      refine AQ.blockN ?_
      refine AQ.thenN ?_
      refine AW.region ?_
      refine AO.op (O.move rfl rfl) rfl rfl rfl ?_
      refine AO.op (O.sub rfl rfl rfl (by first | exact wI64 (by omega) | rfl)) rfl rfl rfl ?_
      refine AO.op (O.assign rfl rfl) rfl rfl rfl ?_
      refine AO.nil ?_
      rw [show ((j + 1 : Nat) : Int) - 1 = (j : Int) by omega]
      refine AQ.loopN _ _ _ (Nat.lt_succ_self j) (⟨j, _, _, V, by omega, hsm.reg, ha'', hV, hb, rfl, rfl, rfl⟩) (by repeat (first | exact envNil | refine envCons rfl ?_)) ⟨_, by repeat (first | exact List.Sublist.slnil | refine List.Sublist.cons_cons _ ?_ | refine List.Sublist.cons _ ?_), List.Perm.refl _⟩
    · skip
      have he : ¬ (regW L (nxt l a' 5) [u8 (nxt l (adv l a') 5)] [u8 (nxt l (adv l (adv l a')) 4)] ((j : Int) + 1)).2 = 0 := by simpa using he
      rw [bLoop, if_neg he] at hb
      refine AW.skip ?_
      refine AQ.blockN ?_
      refine AQ.thenN ?_
      refine AW.region ?_
      refine AO.op (O.move rfl rfl) rfl rfl rfl ?_
      refine AO.op (O.sub rfl rfl rfl (by first | exact wI64 (by omega) | rfl)) rfl rfl rfl ?_
      refine AO.op (O.assign rfl rfl) rfl rfl rfl ?_
      refine AO.nil ?_
      rw [show ((j + 1 : Nat) : Int) - 1 = (j : Int) by omega]
      refine AQ.loopN _ _ _ (Nat.lt_succ_self j) (⟨j, _, _, V0, by omega, hsm, ha'', hV0, hb, rfl, rfl, rfl⟩) (by repeat (first | exact envNil | refine envCons rfl ?_)) ⟨_, by repeat (first | exact List.Sublist.slnil | refine List.Sublist.cons_cons _ ?_ | refine List.Sublist.cons _ ?_), List.Perm.refl _⟩
  · skip
    have hpos : k = 0 := by have := of_decide_eq_false hpos; omega
    subst hpos
    have hr1 : L = (bLoop l (nxt l a 22).toNat [] (adv l a)).1 := congrArg Prod.fst hb
    have hr2 : a' = (bLoop l (nxt l a 22).toNat [] (adv l a)).2 := congrArg Prod.snd hb
    have hreg : regOf l a = sLoop l L a' L.length := by rw [hr1, hr2]; rfl
    rw [hreg]
    refine AW.exit ?_
    refine AQ.thenX ?_
    refine AQ.loopX ?_
    refine AQ.blockX rfl ?_
    refine AQ.thenN ?_
    refine AW.seq ?_
    refine AW.seq ?_
    refine AW.region ?_
    refine AO.op (O.move rfl rfl) rfl rfl rfl ?_
    first | (refine AO.op (O.lenR rfl rfl) rfl rfl rfl ?_) | (refine AO.op (O.lenV rfl rfl) rfl rfl rfl ?_) | (refine AO.op (O.lenRow rfl rfl (by repeat (first | exact List.Mem.head _ | refine List.Mem.tail _ ?_))) rfl rfl rfl ?_) | (refine AO.op (O.lenS rfl rfl) rfl rfl rfl ?_)
    refine AO.op (O.move rfl rfl) rfl rfl rfl ?_
    refine AO.nil ?_
    refine AQ.thenN ?_
    refine AW.block ?_
    refine AW.loop (fun n E H => ∃ (i : Nat) (V : Value), i ≤ L.length ∧ V.oneCell' = true ∧ n = L.length - i ∧ E = [(0, ptr b), (3, .val V), (34, .val (.int .i64 (L.length : Int))), (35, .val (.int .i64 (i : Int)))] ∧ H = [rowW V (sLoop l L a' i).1, deck b l (sLoop l L a' i).2]) (L.length) (⟨0, V0, by omega, hV0, rfl, rfl, rfl⟩) (by repeat (first | exact envNil | refine envCons rfl ?_)) ⟨_, by repeat (first | exact List.Sublist.slnil | refine List.Sublist.cons_cons _ ?_ | refine List.Sublist.cons _ ?_), List.Perm.refl _⟩ ?_
    rintro n E H ⟨i, V, hi, hV, rfl, rfl, rfl⟩
    have hln := sLoop_len l L a' i
    have hlt16 := hsm.1
    have hlad := sLoop_adv (L := L) ha' i
    have n1 := nxt_in l (sLoop l L a' i).2 (n := 4) (by omega)
    refine AW.seq ?_
    refine AW.region ?_
    refine AO.op (O.lss rfl rfl rfl (by first | exact bTrue (by omega) | exact bFalse (by omega) | assumption | rfl)) rfl rfl rfl ?_
    refine AO.nil ?_
    refine AQ.thenN ?_
    refine AW.seq ?_
    refine AW.split rfl (fun hlt => ?_) (fun hlt => ?_)
    · skip
      have hlt : i < L.length := by have := of_decide_eq_true hlt; omega
      have hlt' : i < (sLoop l L a' i).1.length := by omega
      refine AW.g ?_
      refine G.openRow 0 rfl (by omega) (fun b' cap hc1 hc2 hxs hVe => ?_)
      refine AW.u ?_
      subst hVe
      refine AW.skip ?_
      refine AQ.thenN ?_
      refine AW.seq ?_
      refine AW.block ?_
      refine AW.seq ?_
      refine AW.region ?_
      refine AO.op (O.move rfl rfl) rfl rfl rfl ?_
      refine AO.op (O.assign rfl rfl) rfl rfl rfl ?_
      refine AO.nil ?_
      refine AQ.thenN ?_
      refine AW.region ?_
      refine AO.op (O.move rfl rfl) rfl rfl rfl ?_
      refine AO.op (O.move rfl rfl) rfl rfl rfl ?_
      refine AO.opB (O.buildSlice rfl rfl rfl (by rfl) (by rfl) (by rfl) (by rfl)) rfl rfl rfl ?_
      intro B
      refine AO.g ?_
      first | (refine G.freezeSl 0 40 rfl rfl ⟨Nat.le_refl _, by unfold maxLen; omega⟩ ?_) | (refine G.freezeSl 1 40 rfl rfl ⟨Nat.le_refl _, by unfold maxLen; omega⟩ ?_) | (refine G.freezeSl 2 40 rfl rfl ⟨Nat.le_refl _, by unfold maxLen; omega⟩ ?_) | (refine G.freezeSl 3 40 rfl rfl ⟨Nat.le_refl _, by unfold maxLen; omega⟩ ?_) | (refine G.freezeSl 4 40 rfl rfl ⟨Nat.le_refl _, by unfold maxLen; omega⟩ ?_) | (refine G.freezeSl 5 40 rfl rfl ⟨Nat.le_refl _, by unfold maxLen; omega⟩ ?_)
      refine G.unfull 40 rfl ?_
      refine AO.u ?_
      dsimp only [List.eraseIdx]
      refine AO.op (O.move rfl rfl) rfl rfl rfl ?_
      first | (refine AO.callM1 (i := 0) rfl rfl Try.func25 rfl rfl rfl rfl rfl rfl (next_fn _ _ _ _ hl (by repeat (first | assumption | refine adv_le' ?_)) (by omega) (by omega)) (by first | (dsimp only [List.set, List.append, List.cons_append, List.nil_append, splice, AV.cells, List.map, List.map_cons, List.map_nil, List.take, List.drop, Nat.zero_add, Nat.add_zero, Nat.reduceAdd, Nat.reduceMul, Nat.zero_mul, Value.cells, List.toList_toArray, zerosA, List.replicate, List.flatten, List.append_nil]; rfl) | (dsimp only [List.set, List.append, List.cons_append, List.nil_append, splice, AV.cells, List.map, List.map_cons, List.map_nil, List.take, List.drop, Nat.zero_add, Nat.add_zero, Nat.reduceAdd, Nat.reduceMul, Nat.zero_mul, Value.cells, List.toList_toArray, zerosA, List.replicate, List.flatten, List.append_nil]; done) | rfl) ?_) | (refine AO.callM1 (i := 1) rfl rfl Try.func25 rfl rfl rfl rfl rfl rfl (next_fn _ _ _ _ hl (by repeat (first | assumption | refine adv_le' ?_)) (by omega) (by omega)) (by first | (dsimp only [List.set, List.append, List.cons_append, List.nil_append, splice, AV.cells, List.map, List.map_cons, List.map_nil, List.take, List.drop, Nat.zero_add, Nat.add_zero, Nat.reduceAdd, Nat.reduceMul, Nat.zero_mul, Value.cells, List.toList_toArray, zerosA, List.replicate, List.flatten, List.append_nil]; rfl) | (dsimp only [List.set, List.append, List.cons_append, List.nil_append, splice, AV.cells, List.map, List.map_cons, List.map_nil, List.take, List.drop, Nat.zero_add, Nat.add_zero, Nat.reduceAdd, Nat.reduceMul, Nat.zero_mul, Value.cells, List.toList_toArray, zerosA, List.replicate, List.flatten, List.append_nil]; done) | rfl) ?_) | (refine AO.callM1 (i := 2) rfl rfl Try.func25 rfl rfl rfl rfl rfl rfl (next_fn _ _ _ _ hl (by repeat (first | assumption | refine adv_le' ?_)) (by omega) (by omega)) (by first | (dsimp only [List.set, List.append, List.cons_append, List.nil_append, splice, AV.cells, List.map, List.map_cons, List.map_nil, List.take, List.drop, Nat.zero_add, Nat.add_zero, Nat.reduceAdd, Nat.reduceMul, Nat.zero_mul, Value.cells, List.toList_toArray, zerosA, List.replicate, List.flatten, List.append_nil]; rfl) | (dsimp only [List.set, List.append, List.cons_append, List.nil_append, splice, AV.cells, List.map, List.map_cons, List.map_nil, List.take, List.drop, Nat.zero_add, Nat.add_zero, Nat.reduceAdd, Nat.reduceMul, Nat.zero_mul, Value.cells, List.toList_toArray, zerosA, List.replicate, List.flatten, List.append_nil]; done) | rfl) ?_) | (refine AO.callM1 (i := 3) rfl rfl Try.func25 rfl rfl rfl rfl rfl rfl (next_fn _ _ _ _ hl (by repeat (first | assumption | refine adv_le' ?_)) (by omega) (by omega)) (by first | (dsimp only [List.set, List.append, List.cons_append, List.nil_append, splice, AV.cells, List.map, List.map_cons, List.map_nil, List.take, List.drop, Nat.zero_add, Nat.add_zero, Nat.reduceAdd, Nat.reduceMul, Nat.zero_mul, Value.cells, List.toList_toArray, zerosA, List.replicate, List.flatten, List.append_nil]; rfl) | (dsimp only [List.set, List.append, List.cons_append, List.nil_append, splice, AV.cells, List.map, List.map_cons, List.map_nil, List.take, List.drop, Nat.zero_add, Nat.add_zero, Nat.reduceAdd, Nat.reduceMul, Nat.zero_mul, Value.cells, List.toList_toArray, zerosA, List.replicate, List.flatten, List.append_nil]; done) | rfl) ?_) | (refine AO.callM1 (i := 4) rfl rfl Try.func25 rfl rfl rfl rfl rfl rfl (next_fn _ _ _ _ hl (by repeat (first | assumption | refine adv_le' ?_)) (by omega) (by omega)) (by first | (dsimp only [List.set, List.append, List.cons_append, List.nil_append, splice, AV.cells, List.map, List.map_cons, List.map_nil, List.take, List.drop, Nat.zero_add, Nat.add_zero, Nat.reduceAdd, Nat.reduceMul, Nat.zero_mul, Value.cells, List.toList_toArray, zerosA, List.replicate, List.flatten, List.append_nil]; rfl) | (dsimp only [List.set, List.append, List.cons_append, List.nil_append, splice, AV.cells, List.map, List.map_cons, List.map_nil, List.take, List.drop, Nat.zero_add, Nat.add_zero, Nat.reduceAdd, Nat.reduceMul, Nat.zero_mul, Value.cells, List.toList_toArray, zerosA, List.replicate, List.flatten, List.append_nil]; done) | rfl) ?_) | (refine AO.callM1 (i := 5) rfl rfl Try.func25 rfl rfl rfl rfl rfl rfl (next_fn _ _ _ _ hl (by repeat (first | assumption | refine adv_le' ?_)) (by omega) (by omega)) (by first | (dsimp only [List.set, List.append, List.cons_append, List.nil_append, splice, AV.cells, List.map, List.map_cons, List.map_nil, List.take, List.drop, Nat.zero_add, Nat.add_zero, Nat.reduceAdd, Nat.reduceMul, Nat.zero_mul, Value.cells, List.toList_toArray, zerosA, List.replicate, List.flatten, List.append_nil]; rfl) | (dsimp only [List.set, List.append, List.cons_append, List.nil_append, splice, AV.cells, List.map, List.map_cons, List.map_nil, List.take, List.drop, Nat.zero_add, Nat.add_zero, Nat.reduceAdd, Nat.reduceMul, Nat.zero_mul, Value.cells, List.toList_toArray, zerosA, List.replicate, List.flatten, List.append_nil]; done) | rfl) ?_)
      first | (refine AO.op (O.idxR rfl rfl rfl ⟨by omega, by omega⟩) rfl rfl rfl ?_) | (refine AO.op (O.idxV rfl rfl rfl ⟨by omega, by omega⟩) rfl rfl rfl ?_)
      first | (refine AO.op (O.loadR rfl rfl (by first | rfl | exact seq_at (by omega) | assumption)) rfl rfl rfl ?_) | (refine AO.op (O.load rfl rfl (by repeat (first | exact List.Mem.head _ | refine List.Mem.tail _ ?_)) (by first | rfl | exact seq_at (by omega) | assumption)) rfl rfl rfl ?_)
      first | (refine AO.op (O.idxR rfl rfl rfl ⟨by omega, by omega⟩) rfl rfl rfl ?_) | (refine AO.op (O.idxV rfl rfl rfl ⟨by omega, by omega⟩) rfl rfl rfl ?_)
      first | (refine AO.op (O.fieldAddrR rfl rfl) rfl rfl rfl ?_) | (refine AO.op (O.fieldAddr rfl rfl) rfl rfl rfl ?_)
      first | (refine AO.store (i := 0) rfl rfl rfl rfl rfl rfl (by first | rfl | (simp [AV.cells, AV.one, *]; done) | simp [AV.cells, AV.one, Value.oneCell', *]) (by rfl) (by first | rfl | exact Nat.ble_eq_true_of_le (by rw [watchesA_length]; omega)) (by first | exact spliceW (by assumption) | rfl) (by first | (dsimp only [List.set, List.append, List.cons_append, List.nil_append, splice, AV.cells, List.map, List.map_cons, List.map_nil, List.take, List.drop, Nat.zero_add, Nat.add_zero, Nat.reduceAdd, Nat.reduceMul, Nat.zero_mul, Value.cells, List.toList_toArray, zerosA, List.replicate, List.flatten, List.append_nil]; rfl) | (dsimp only [List.set, List.append, List.cons_append, List.nil_append, splice, AV.cells, List.map, List.map_cons, List.map_nil, List.take, List.drop, Nat.zero_add, Nat.add_zero, Nat.reduceAdd, Nat.reduceMul, Nat.zero_mul, Value.cells, List.toList_toArray, zerosA, List.replicate, List.flatten, List.append_nil]; done) | rfl) ?_) | (refine AO.store (i := 1) rfl rfl rfl rfl rfl rfl (by first | rfl | (simp [AV.cells, AV.one, *]; done) | simp [AV.cells, AV.one, Value.oneCell', *]) (by rfl) (by first | rfl | exact Nat.ble_eq_true_of_le (by rw [watchesA_length]; omega)) (by first | exact spliceW (by assumption) | rfl) (by first | (dsimp only [List.set, List.append, List.cons_append, List.nil_append, splice, AV.cells, List.map, List.map_cons, List.map_nil, List.take, List.drop, Nat.zero_add, Nat.add_zero, Nat.reduceAdd, Nat.reduceMul, Nat.zero_mul, Value.cells, List.toList_toArray, zerosA, List.replicate, List.flatten, List.append_nil]; rfl) | (dsimp only [List.set, List.append, List.cons_append, List.nil_append, splice, AV.cells, List.map, List.map_cons, List.map_nil, List.take, List.drop, Nat.zero_add, Nat.add_zero, Nat.reduceAdd, Nat.reduceMul, Nat.zero_mul, Value.cells, List.toList_toArray, zerosA, List.replicate, List.flatten, List.append_nil]; done) | rfl) ?_) | (refine AO.store (i := 2) rfl rfl rfl rfl rfl rfl (by first | rfl | (simp [AV.cells, AV.one, *]; done) | simp [AV.cells, AV.one, Value.oneCell', *]) (by rfl) (by first | rfl | exact Nat.ble_eq_true_of_le (by rw [watchesA_length]; omega)) (by first | exact spliceW (by assumption) | rfl) (by first | (dsimp only [List.set, List.append, List.cons_append, List.nil_append, splice, AV.cells, List.map, List.map_cons, List.map_nil, List.take, List.drop, Nat.zero_add, Nat.add_zero, Nat.reduceAdd, Nat.reduceMul, Nat.zero_mul, Value.cells, List.toList_toArray, zerosA, List.replicate, List.flatten, List.append_nil]; rfl) | (dsimp only [List.set, List.append, List.cons_append, List.nil_append, splice, AV.cells, List.map, List.map_cons, List.map_nil, List.take, List.drop, Nat.zero_add, Nat.add_zero, Nat.reduceAdd, Nat.reduceMul, Nat.zero_mul, Value.cells, List.toList_toArray, zerosA, List.replicate, List.flatten, List.append_nil]; done) | rfl) ?_) | (refine AO.store (i := 3) rfl rfl rfl rfl rfl rfl (by first | rfl | (simp [AV.cells, AV.one, *]; done) | simp [AV.cells, AV.one, Value.oneCell', *]) (by rfl) (by first | rfl | exact Nat.ble_eq_true_of_le (by rw [watchesA_length]; omega)) (by first | exact spliceW (by assumption) | rfl) (by first | (dsimp only [List.set, List.append, List.cons_append, List.nil_append, splice, AV.cells, List.map, List.map_cons, List.map_nil, List.take, List.drop, Nat.zero_add, Nat.add_zero, Nat.reduceAdd, Nat.reduceMul, Nat.zero_mul, Value.cells, List.toList_toArray, zerosA, List.replicate, List.flatten, List.append_nil]; rfl) | (dsimp only [List.set, List.append, List.cons_append, List.nil_append, splice, AV.cells, List.map, List.map_cons, List.map_nil, List.take, List.drop, Nat.zero_add, Nat.add_zero, Nat.reduceAdd, Nat.reduceMul, Nat.zero_mul, Value.cells, List.toList_toArray, zerosA, List.replicate, List.flatten, List.append_nil]; done) | rfl) ?_) | (refine AO.store (i := 4) rfl rfl rfl rfl rfl rfl (by first | rfl | (simp [AV.cells, AV.one, *]; done) | simp [AV.cells, AV.one, Value.oneCell', *]) (by rfl) (by first | rfl | exact Nat.ble_eq_true_of_le (by rw [watchesA_length]; omega)) (by first | exact spliceW (by assumption) | rfl) (by first | (dsimp only [List.set, List.append, List.cons_append, List.nil_append, splice, AV.cells, List.map, List.map_cons, List.map_nil, List.take, List.drop, Nat.zero_add, Nat.add_zero, Nat.reduceAdd, Nat.reduceMul, Nat.zero_mul, Value.cells, List.toList_toArray, zerosA, List.replicate, List.flatten, List.append_nil]; rfl) | (dsimp only [List.set, List.append, List.cons_append, List.nil_append, splice, AV.cells, List.map, List.map_cons, List.map_nil, List.take, List.drop, Nat.zero_add, Nat.add_zero, Nat.reduceAdd, Nat.reduceMul, Nat.zero_mul, Value.cells, List.toList_toArray, zerosA, List.replicate, List.flatten, List.append_nil]; done) | rfl) ?_) | (refine AO.store (i := 5) rfl rfl rfl rfl rfl rfl (by first | rfl | (simp [AV.cells, AV.one, *]; done) | simp [AV.cells, AV.one, Value.oneCell', *]) (by rfl) (by first | rfl | exact Nat.ble_eq_true_of_le (by rw [watchesA_length]; omega)) (by first | exact spliceW (by assumption) | rfl) (by first | (dsimp only [List.set, List.append, List.cons_append, List.nil_append, splice, AV.cells, List.map, List.map_cons, List.map_nil, List.take, List.drop, Nat.zero_add, Nat.add_zero, Nat.reduceAdd, Nat.reduceMul, Nat.zero_mul, Value.cells, List.toList_toArray, zerosA, List.replicate, List.flatten, List.append_nil]; rfl) | (dsimp only [List.set, List.append, List.cons_append, List.nil_append, splice, AV.cells, List.map, List.map_cons, List.map_nil, List.take, List.drop, Nat.zero_add, Nat.add_zero, Nat.reduceAdd, Nat.reduceMul, Nat.zero_mul, Value.cells, List.toList_toArray, zerosA, List.replicate, List.flatten, List.append_nil]; done) | rfl) ?_)
      refine AO.nil ?_
      refine AQ.blockN ?_
      refine AQ.thenN ?_
      refine AW.region ?_
      refine AO.op (O.add rfl rfl rfl (by first | exact wI64 (by omega) | rfl)) rfl rfl rfl ?_
      refine AO.op (O.move rfl rfl) rfl rfl rfl ?_
      refine AO.nil ?_
      refine AQ.g ?_
      first | refine G.closeRow (b := b') (n := (sLoop l L a' i).1.length) 0 rfl (by rw [watchesA_length, List.length_set]) rfl hc1 hc2 ?_ | refine G.closeRow (b := b') (n := (sLoop l L a' i).1.length) 1 rfl (by rw [watchesA_length, List.length_set]) rfl hc1 hc2 ?_ | refine G.closeRow (b := b') (n := (sLoop l L a' i).1.length) 2 rfl (by rw [watchesA_length, List.length_set]) rfl hc1 hc2 ?_
      refine AQ.u ?_
      refine AQ.loopN _ _ _ (by omega) (⟨i + 1, _, by omega, hV, rfl, rfl, by unfold rowW; rw [sLoop, List.length_set]⟩) (by repeat (first | exact envNil | refine envCons rfl ?_)) ⟨_, by repeat (first | exact List.Sublist.slnil | refine List.Sublist.cons_cons _ ?_ | refine List.Sublist.cons _ ?_), List.Perm.refl _⟩
    · skip
      have hlt : i = L.length := by have := of_decide_eq_false hlt; omega
      subst hlt
      refine AW.exit ?_
      refine AQ.thenX ?_
      refine AQ.loopX ?_
      refine AQ.blockX rfl ?_
      refine AQ.thenN ?_
      refine AW.seq ?_
      refine AW.region ?_
      refine AO.op (O.move rfl rfl) rfl rfl rfl ?_
      refine AO.op (O.assign rfl rfl) rfl rfl rfl ?_
      refine AO.nil ?_
      refine AQ.thenN ?_
      refine AW.ret ?_
      refine AQ.g ?_
      first | (refine G.freezeRow 0 rfl [2] (by repeat (first | exact frNil | refine frCons rfl ?_)) ?_) | (refine G.freezeRow 1 rfl [2] (by repeat (first | exact frNil | refine frCons rfl ?_)) ?_) | (refine G.freezeRow 2 rfl [2] (by repeat (first | exact frNil | refine frCons rfl ?_)) ?_) | (refine G.freezeRow 3 rfl [2] (by repeat (first | exact frNil | refine frCons rfl ?_)) ?_) | (refine G.freezeRow 4 rfl [2] (by repeat (first | exact frNil | refine frCons rfl ?_)) ?_)
      refine AQ.u ?_
      dsimp only [List.map, List.eraseIdx, List.cons_append, List.nil_append]
      refine AQ.ret1 rfl rfl ⟨_, by repeat (first | exact List.Sublist.slnil | refine List.Sublist.cons_cons _ ?_ | refine List.Sublist.cons _ ?_), List.Perm.refl _⟩ (⟨rfl, rfl⟩)
end Go.Proofs.Ytlcoanbdaephiaa.Ob
