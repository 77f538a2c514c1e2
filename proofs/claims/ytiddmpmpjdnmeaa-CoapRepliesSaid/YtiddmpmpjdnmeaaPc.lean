/-
  The makers' options and messages.
-/
import Derived.Test.YtiddmpmpjdnmeaaPb
import Derived.Test.YtiddmpmpjdnmeaaMk
namespace Go.Proofs.Ytiddmpmpjdnmeaa.By
open Go.RowKit L A Dk
set_option linter.unusedVariables false
set_option linter.unusedSimpArgs false
attribute [local irreducible] AW AQ AO
theorem AscO_iff : ∀ {l : Int} {os : List Opt}, AscO l os ↔ os.Pairwise (fun a b => a.num ≤ b.num) ∧ ∀ o ∈ os, l ≤ o.num ∧ o.num ≤ 65535 ∧ (o.val.length : Int) ≤ 1034
  | l, [] => by simp [AscO]
  | l, o :: os => by
    rw [AscO, AscO_iff, List.pairwise_cons]
    simp only [List.mem_cons, forall_eq_or_imp]
    constructor
    · rintro ⟨h1, h2, h3, h4, h5⟩
      exact ⟨⟨fun a ha => (h5 a ha).1, h4⟩, ⟨h1, h2, h3⟩, fun a ha => ⟨Int.le_trans h1 (h5 a ha).1, (h5 a ha).2⟩⟩
    · rintro ⟨⟨h1, h2⟩, ⟨h3, h4, h5⟩, h6⟩
      exact ⟨h3, h4, h5, h2, fun a ha => ⟨h1 a ha, (h6 a ha).2⟩⟩
theorem setO_asc {os : List Opt} {n : Int} {vs : List (List UInt8)} (h : AscO 0 os) (hn : 0 ≤ n ∧ n ≤ 65535) (hv : ∀ v ∈ vs, (v.length : Int) ≤ 1034) : AscO 0 (setO os n vs) := by
  rw [AscO_iff] at h ⊢
  obtain ⟨h1, h2⟩ := h
  refine ⟨?_, fun o ho => ?_⟩
  · unfold setO ltO gtO eqO
    rw [List.pairwise_append, List.pairwise_append]
    refine ⟨⟨h1.filter _, ?_, ?_⟩, h1.filter _, ?_⟩
    · rw [List.pairwise_map]
      exact List.Pairwise.imp (R := fun _ _ => True) (fun _ => Int.le_refl _) (List.pairwise_of_forall (fun _ _ => trivial))
    · intro a ha b hb
      simp only [List.mem_filter, decide_eq_true_eq, List.mem_map] at ha hb
      obtain ⟨v, -, rfl⟩ := hb
      simp only; omega
    · intro a ha b hb
      simp only [List.mem_append, List.mem_filter, decide_eq_true_eq, List.mem_map] at ha hb
      rcases ha with ha | ⟨v, -, rfl⟩
      · omega
      · simp only; omega
  · rcases setO_mem ho with ho | ⟨v, hv', rfl⟩
    · exact h2 o ho
    · exact ⟨hn.1, hn.2, hv v hv'⟩
theorem setO_count (n : Int) : ∀ os : List Opt, (ltO os n).length + (allV os n).length + (gtO os n).length = os.length
  | [] => rfl
  | o :: os => by
    have := setO_count n os
    unfold ltO allV gtO at *
    simp only [List.filter_cons, List.length_map] at *
    rcases Int.lt_trichotomy o.num n with h | h | h
    · rw [if_pos (by simpa using h), if_neg (by simp; omega), if_neg (by simp; omega)]; simp only [List.length_cons]; omega
    · rw [if_neg (by simp; omega), if_pos (by simpa using h), if_neg (by simp; omega)]; simp only [List.length_cons]; omega
    · rw [if_neg (by simp; omega), if_neg (by simp; omega), if_pos (by simpa using h)]; simp only [List.length_cons]; omega
theorem setO_more (os : List Opt) (n : Int) (v : List UInt8) : (setO os n (allV os n ++ [v])).length = os.length + 1 := by
  have := setO_count n os
  simp only [setO, List.length_append, eqO_len, List.length_cons, List.length_nil]; omega
theorem allV_mem {os : List Opt} {n : Int} {v : List UInt8} (h : v ∈ allV os n) : ∃ o ∈ os, o.val = v := by
  unfold allV at h
  obtain ⟨o, ho, rfl⟩ := List.mem_map.1 h
  exact ⟨o, (List.mem_filter.1 ho).1, rfl⟩
def numsL : List Int := [1, 3, 4, 6, 8, 11, 11, 12, 14, 15, 17, 23, 27, 28, 35, 60, 252, 258, 292, 9, 2, 13, 300, 65535]
theorem nums_in (k : Nat) : 0 ≤ numsL.getD k 0 ∧ numsL.getD k 0 ≤ 65535 := by
  rcases Nat.lt_or_ge k 24 with h | h
  · have : ∀ k, k < 24 → 0 ≤ numsL.getD k 0 ∧ numsL.getD k 0 ≤ 65535 := by decide
    exact this k h
  · rw [show numsL.getD k 0 = 0 by rw [List.getD, List.getElem?_eq_none (show numsL.length ≤ k from h)]; rfl]; decide
theorem numbers_fn : Sp Try.prog 47 [] [] (Is (roI numsL)) := by
  refine Sp.enter Try.func47 rfl _ Try.ntmps47 rfl (fun w0 R0 => ?_)
  refine AW.seq ?_
  refine AW.region ?_
  refine AO.op (O.assign rfl rfl) rfl rfl rfl ?_
  refine AO.nil ?_
  refine AQ.thenN ?_
  refine AW.seq ?_
  refine AW.region ?_
  refine AO.opB (O.buildSlice rfl rfl rfl (by rfl) (by rfl) (by rfl) (by rfl)) rfl rfl rfl ?_
  intro B1
  refine AO.op (O.assign rfl rfl) rfl rfl rfl ?_
  refine AO.nil ?_
  refine AQ.thenN ?_
  refine AW.ret ?_
  refine AQ.g ?_
  refine G.freezeSl 0 0 rfl rfl ⟨Nat.le_refl _, by unfold maxLen; omega⟩ ?_
  refine AQ.u ?_
  refine AQ.g ?_
  refine G.unfull 0 rfl ?_
  refine AQ.u ?_
  refine AQ.ret1 rfl rfl ⟨_, List.nil_sublist _, .nil⟩ (⟨rfl, rfl⟩)
def codesL : List Int := [1, 2, 3, 4, 5, 69, 69, 65, 67, 68, 132, 160, 0]
def CodeOk (c : Int) : Prop := 0 ≤ c ∧ c ≤ 255 ∧ ClsOk c
theorem codes_at {z : Int} (h0 : 0 ≤ z) (h1 : z < 13) {j : Nat} (hj : j = z.toNat * 1) : ([.val (.int .i64 1), .val (.int .i64 2), .val (.int .i64 3), .val (.int .i64 4), .val (.int .i64 5), .val (.int .i64 69), .val (.int .i64 69), .val (.int .i64 65), .val (.int .i64 67), .val (.int .i64 68), .val (.int .i64 132), .val (.int .i64 160), .val (.int .i64 0)] : List AV)[j]? = some (.val (.int .i64 (codesL.getD z.toNat 0))) := by
  subst hj
  rcases (show z = 0 ∨ z = 1 ∨ z = 2 ∨ z = 3 ∨ z = 4 ∨ z = 5 ∨ z = 6 ∨ z = 7 ∨ z = 8 ∨ z = 9 ∨ z = 10 ∨ z = 11 ∨ z = 12 by omega) with rfl | rfl | rfl | rfl | rfl | rfl | rfl | rfl | rfl | rfl | rfl | rfl | rfl <;> rfl
theorem codes_in (k : Nat) : CodeOk (codesL.getD k 0) := by
  unfold CodeOk ClsOk
  rcases Nat.lt_or_ge k 13 with h | h
  · have : ∀ k, k < 13 → 0 ≤ codesL.getD k 0 ∧ codesL.getD k 0 ≤ 255 ∧ (codesL.getD k 0 / 32 = 0 ∨ codesL.getD k 0 / 32 = 2 ∨ codesL.getD k 0 / 32 = 4 ∨ codesL.getD k 0 / 32 = 5) := by decide
    exact this k h
  · rw [show codesL.getD k 0 = 0 by rw [List.getD, List.getElem?_eq_none (show codesL.length ≤ k from h)]; rfl]; decide
def IsCode (r : AV) : Prop := ∃ c : Int, CodeOk c ∧ r = .val (.int .i64 c)
theorem code_any (b : Nat) (l : List Int) (k : Nat) (hl : l.length ≤ maxLen) (hk : k ≤ l.length) : Sp Try.prog 14 [ptr b] [deck b l k] (Gen b l IsCode) := by
  refine Sp.enter Try.func14 rfl _ Try.ntmps14 rfl (fun w0 R0 => ?_)
  refine AW.seq ?_
  refine AW.region ?_
  refine AO.op (O.assign rfl rfl) rfl rfl rfl ?_
  refine AO.nil ?_
  refine AQ.thenN ?_
  refine AW.seq ?_
  refine AW.region ?_
  refine AO.opB (O.buildSlice rfl rfl rfl (by rfl) (by rfl) (by rfl) (by rfl)) rfl rfl rfl ?_
  intro B1
  refine AO.g ?_
  (refine G.freezeSl 0 3 rfl rfl ⟨Nat.le_refl _, by unfold maxLen; omega⟩ ?_)
  refine G.unfull 3 rfl ?_
  refine AO.u ?_
  dsimp only [List.eraseIdx]
  refine AO.op (O.move rfl rfl) rfl rfl rfl ?_
  refine AO.callMG 0 rfl rfl Try.func36 rfl rfl rfl rfl rfl rfl (next_any _ l _ _ hl (by assumption) (by omega) (by omega)) ?_
  rintro _ _ ⟨⟨z2, hz02, hz12, rfl⟩, kd2, hkd2, rfl⟩
  dsimp only [List.cons_append, List.nil_append, List.eraseIdx]
  refine AO.op (O.idxR rfl rfl rfl ⟨(by omega), (by omega)⟩) rfl rfl rfl ?_
  refine AO.op (O.loadR rfl rfl (by exact codes_at (by assumption) (by assumption) rfl)) rfl rfl rfl ?_
  refine AO.op (O.assign rfl rfl) rfl rfl rfl ?_
  refine AO.nil ?_
  refine AQ.thenN ?_
  refine AW.ret ?_
  refine AQ.ret1 rfl rfl ⟨_, by repeat (first | exact List.Sublist.slnil | refine List.Sublist.cons_cons _ ?_), List.Perm.refl _⟩ (⟨⟨_, codes_in _, rfl⟩, _, hkd2, rfl⟩)
def OptsOk (n : Nat) (os : List Opt) : Prop := AscO 0 os ∧ os.length ≤ n ∧ ∀ o ∈ os, o.val.length ≤ 5
def IsOpts (n : Nat) (r : AV) : Prop := ∃ os, OptsOk n os ∧ r = roO os
theorem OptsOk.add {c : Nat} {os : List Opt} (h : OptsOk c os) {n : Int} (hn : 0 ≤ n ∧ n ≤ 65535) {v : List UInt8} (hv : v.length ≤ 5) : OptsOk (c + 1) (setO os n (allV os n ++ [v])) := by
  have hm : ∀ w ∈ allV os n ++ [v], w.length ≤ 5 := fun w hw => by
    rcases List.mem_append.1 hw with hw | hw
    · obtain ⟨o, ho, rfl⟩ := allV_mem hw
      exact h.2.2 o ho
    · obtain rfl : w = v := by simpa using hw
      exact hv
  refine ⟨setO_asc h.1 hn fun w hw => by have := hm w hw; omega, by rw [setO_more]; have := h.2.1; omega, fun o ho => ?_⟩
  rcases setO_mem ho with ho | ⟨w, hw, rfl⟩
  · exact h.2.2 o ho
  · exact hm w hw
theorem nums_at {z : Int} (h0 : 0 ≤ z) (h1 : z < 24) {j : Nat} (hj : j = z.toNat * 1) : (intsA .i64 numsL)[j]? = some (.val (.int .i64 (numsL.getD z.toNat 0))) := roI_at (by show z.toNat < 24; omega) (by omega)
abbrev oM (os : List Opt) : Msg := ⟨0, 0, 0, [], os, []⟩
theorem set_of {m : Msg} {n : Int} {vs : List (List UInt8)} {N : Nat} {xs : List AV} (e1 : N = vs.length) (e2 : xs = bsA vs) (h1 : m.tok.length ≤ 4294967296) (h2 : m.pay.length ≤ 4294967296) (h3 : m.opts.length ≤ 100000) (h4 : vs.length ≤ 100000) (hat : ∀ o ∈ m.opts, o.val.length ≤ 4294967296) (hvs : ∀ v ∈ vs, v.length ≤ 4294967296) :
    Sp Try.prog 48 [aggM m, .val (.int .i64 n), .ro false N xs] [] (Is (aggM ⟨m.ty, m.code, m.id, m.tok, setO m.opts n vs, m.pay⟩)) := by
  subst e1; subst e2
  exact set_fn m n vs h1 h2 h3 h4 hat hvs
theorem OptsOk.big {n : Nat} {os : List Opt} (h : OptsOk n os) : ∀ o ∈ os, o.val.length ≤ 4294967296 := fun o ho => by have := h.2.2 o ho; omega
theorem OptsOk.vals {n : Nat} {os : List Opt} (h : OptsOk n os) {x : Int} {v : List UInt8} (hv : v.length ≤ 5) : ∀ w ∈ allV os x ++ [v], w.length ≤ 4294967296 := fun w hw => by
  rcases List.mem_append.1 hw with hw | hw
  · obtain ⟨o, ho, rfl⟩ := allV_mem hw
    have := h.2.2 o ho; omega
  · obtain rfl : w = v := by simpa using hw
    omega
theorem all_rowb (os : List Opt) (n : Int) (h3 : os.length ≤ 1000000) (hat : ∀ o ∈ os, o.val.length ≤ 4294967296) : Sp Try.prog 49 [aggM (oM os), .val (.int .i64 n)] []
    (fun v' Hn => ∃ v : Value, v' = .val v ∧ v.oneCell' = true ∧ Hn = [.row v 22 1 (allV os n).length (bsA (allV os n))] ∧ (allV os n).length ≤ os.length) :=
  (all_row (oM os) n h3 hat).mono fun r H' ⟨v, h1, h2, h3⟩ => ⟨v, h1, h2, h3, allV_len _ _⟩
set_option maxHeartbeats 4000000 in
theorem options_any (b : Nat) (l : List Int) (k : Nat) (n : Nat) (hl : l.length ≤ maxLen) (hk : k ≤ l.length) (hn : n ≤ 1000) :
    Sp Try.prog 28 [ptr b, .val (.int .i64 (n : Int))] [deck b l k] (Gen b l (IsOpts n)) := by
  refine Sp.enter Try.func28 rfl _ Try.ntmps28 rfl (fun w0 R0 => ?_)
  refine AW.seq ?_
  refine AW.region ?_
  refine AO.op (O.assign rfl rfl) rfl rfl rfl ?_
  refine AO.nil ?_
  refine AQ.thenN ?_
  refine AW.seq ?_
  refine AW.region ?_
  refine AO.op (O.build rfl rfl rfl (by rfl)) rfl rfl rfl ?_
  refine AO.opB (O.alloc rfl (by (dsimp only [List.set, List.append, List.cons_append, List.nil_append, roB_cells, roI_cells, roO_cells, splice, ofConst, AV.cells, List.map, List.map_cons, List.map_nil, List.take, List.drop, Nat.zero_add, Nat.add_zero, Nat.reduceAdd, Nat.reduceMul, Nat.zero_mul, Value.cells, List.toList_toArray, zerosA, List.replicate, List.flatten, List.append_nil]; done)) (by rfl)) rfl rfl rfl ?_
  intro B1
  (refine AO.store (i := 0) rfl rfl rfl rfl rfl rfl (by rfl) (by rfl) (by rfl) (by (dsimp only [List.set, List.append, List.cons_append, List.nil_append, roB_cells, roI_cells, roO_cells, splice, ofConst, AV.cells, List.map, List.map_cons, List.map_nil, List.take, List.drop, Nat.zero_add, Nat.add_zero, Nat.reduceAdd, Nat.reduceMul, Nat.zero_mul, Value.cells, List.toList_toArray, zerosA, List.replicate, List.flatten, List.append_nil]; done)) (by (dsimp only [List.set, List.append, List.cons_append, List.nil_append, roB_cells, roI_cells, roO_cells, splice, ofConst, AV.cells, List.map, List.map_cons, List.map_nil, List.take, List.drop, Nat.zero_add, Nat.add_zero, Nat.reduceAdd, Nat.reduceMul, Nat.zero_mul, Value.cells, List.toList_toArray, zerosA, List.replicate, List.flatten, List.append_nil]; done)) ?_)
  refine AO.nil ?_
  refine AQ.thenN ?_
  refine AW.seq ?_
  refine AW.seq ?_
  refine AW.region ?_
  refine AO.op (O.move rfl rfl) rfl rfl rfl ?_
  refine AO.op (O.move rfl rfl) rfl rfl rfl ?_
  refine AO.op (O.add rfl rfl rfl (by exact wI64 (by omega))) rfl rfl rfl ?_
  refine AO.callMG 1 rfl rfl Try.func36 rfl rfl rfl rfl rfl rfl (next_any _ l _ _ hl (by assumption) (by omega) (by omega)) ?_
  rintro _ _ ⟨⟨z2, hz02, hz12, rfl⟩, kd2, hkd2, rfl⟩
  dsimp only [List.cons_append, List.nil_append, List.eraseIdx]
  refine AO.op (O.assign rfl rfl) rfl rfl rfl ?_
  refine AO.nil ?_
  refine AQ.thenN ?_
  refine AW.block ?_
  obtain ⟨c0, rfl⟩ : ∃ c : Nat, z2 = (c : Int) := ⟨z2.toNat, by omega⟩
  refine AW.g ?_
  refine G.coeCell 1 3 rfl rfl Coe.nil ?_
  refine AW.u ?_
  refine AW.g ?_
  refine G.coeCell 1 4 rfl rfl Coe.nil ?_
  refine AW.u ?_
  refine AW.g ?_
  refine G.coeCell 1 5 rfl rfl Coe.nil ?_
  refine AW.u ?_
  refine AW.loopK [(0, _), (5, _)] (fun nn E H => ∃ (c : Nat) (os : List Opt) (kk : Nat), (c ≤ n) ∧ (OptsOk (n - c) os) ∧ (kk ≤ l.length) ∧ c = nn ∧ E = [(6, .val (.int .i64 (c : Int)))] ∧ H = [deck b l kk, .blk B1 31 6 [.val (.int .i64 0), .val (.int .i64 0), .val (.int .i64 0), roB [], roO os, roB []]]) _ (⟨c0, [], kd2, by omega, ⟨trivial, by simp, by simp⟩, hkd2, rfl, rfl, rfl⟩) (by repeat (first | exact envNil | refine envCons rfl ?_)) (by repeat (first | exact envNil | refine envCons rfl ?_)) (by repeat (first | exact subPnil | refine subPcons 0 rfl ?_)) ?_
  rintro nn E H ⟨c, os, kk, hc, ho, hkk, rfl, rfl, rfl⟩
  dsimp only [List.cons_append, List.nil_append]
  have hol := ho.2.1
  have hnl : numsL.length = 24 := rfl
  have hal := fun x => allV_len os x
  refine AW.seq ?_
  refine AW.seq ?_
  refine AW.region ?_
  refine AO.op (O.move rfl rfl) rfl rfl rfl ?_
  refine AO.op (O.gtr rfl rfl rfl (by rfl)) rfl rfl rfl ?_
  refine AO.nil ?_
  refine AQ.thenN ?_
  refine AW.split rfl (fun h => ?_) (fun h => ?_) <;> (try simp only [decide_eq_true_eq, decide_eq_false_iff_not, beq_iff_eq, beq_eq_false_iff_ne, bne_iff_ne, bne_eq_false_iff_eq, Bool.not_eq_true', Bool.not_eq_false', Bool.not_eq_true, Bool.not_eq_false, ne_eq, Int.not_lt, Int.not_le, Bool.and_eq_true, Bool.or_eq_true, Bool.or_eq_false_iff, Bool.and_eq_false_imp, strOf_toList, Decidable.not_not] at h)
  · skip
    obtain ⟨j, rfl⟩ : ∃ j, c = j + 1 := ⟨c - 1, by omega⟩
    refine AW.skip ?_
    refine AQ.thenN ?_
    refine AW.seq ?_
    refine AW.block ?_
    refine AW.seq ?_
    refine AW.region ?_
    refine AO.op (O.call rfl Try.func47 rfl rfl rfl (numbers_fn)) rfl rfl rfl ?_
    refine AO.op (O.move rfl rfl) rfl rfl rfl ?_
    refine AO.callMG 0 rfl rfl Try.func36 rfl rfl rfl rfl rfl rfl (next_any _ l _ _ hl (by assumption) (by omega) (by omega)) ?_
    rintro _ _ ⟨⟨z3, hz03, hz13, rfl⟩, kd3, hkd3, rfl⟩
    dsimp only [List.cons_append, List.nil_append, List.eraseIdx]
    refine AO.op (O.idxR rfl rfl rfl ⟨(by omega), (by omega)⟩) rfl rfl rfl ?_
    refine AO.op (O.loadR rfl rfl (by exact nums_at (by assumption) (by assumption) rfl)) rfl rfl rfl ?_
    refine AO.op (O.assign rfl rfl) rfl rfl rfl ?_
    refine AO.nil ?_
    refine AQ.thenN ?_
    refine AW.regionS [[(0, false), (1, false), (2, false), (3, false), (5, false), (4, true), (6, true), (7, false), (8, true)], [(9, false)], [(10, true)]] (by kernel_rfl) (by kernel_rfl) ?_
    refine AMS.go (by exact (by exact splitBlk 0 0 rfl rfl splitNil)) ?_
    try dsimp only [List.eraseIdx]
    (refine AM.op rfl (O.loadK rfl rfl (by repeat (exact List.Mem.head _)) (by (dsimp only [List.set, List.append, List.cons_append, List.nil_append, roB_cells, roI_cells, roO_cells, splice, ofConst, AV.cells, List.map, List.map_cons, List.map_nil, List.take, List.drop, Nat.zero_add, Nat.add_zero, Nat.reduceAdd, Nat.reduceMul, Nat.zero_mul, Value.cells, List.toList_toArray, zerosA, List.replicate, List.flatten, List.append_nil]; done)) (by rfl)) rfl rfl rfl ?_)
    refine AM.op rfl (O.move rfl rfl) rfl rfl rfl ?_
    (refine AM.op rfl (O.loadK rfl rfl (by repeat (exact List.Mem.head _)) (by (dsimp only [List.set, List.append, List.cons_append, List.nil_append, roB_cells, roI_cells, roO_cells, splice, ofConst, AV.cells, List.map, List.map_cons, List.map_nil, List.take, List.drop, Nat.zero_add, Nat.add_zero, Nat.reduceAdd, Nat.reduceMul, Nat.zero_mul, Value.cells, List.toList_toArray, zerosA, List.replicate, List.flatten, List.append_nil]; done)) (by rfl)) rfl rfl rfl ?_)
    refine AM.op rfl (O.move rfl rfl) rfl rfl rfl ?_
    refine AM.op rfl (O.move rfl rfl) rfl rfl rfl ?_
    refine AM.main _ rfl (fun w0 R0 => ?_)
    refine AO.opN (O.call rfl Try.func49 rfl rfl rfl (all_rowb os _ (by omega) ho.big)) rfl rfl rfl ?_
    rintro _ _ ⟨V4, rfl, hV4, rfl, hb4⟩
    simp only [List.cons_append, List.nil_append]
    refine AM.ok ?_
    dsimp only [putE]
    refine AM.main _ rfl (fun w0 R0 => ?_)
    refine AO.callMG 1 rfl rfl Try.func37 rfl rfl rfl rfl rfl rfl (bytes_any _ l _ 5 hl (by assumption) (by omega)) ?_
    rintro _ _ ⟨⟨x5, hx5, rfl⟩, kd5, hkd5, rfl⟩
    dsimp only [List.cons_append, List.nil_append, List.eraseIdx]
    refine AM.ok ?_
    dsimp only [putE]
    refine AM.op rfl (OpW.frz (O.buildSlice rfl rfl rfl (by rfl) (by rfl) (by rfl) (by rfl)) (by (unfold maxLen; omega))) rfl rfl rfl ?_
    refine AM.main _ rfl (fun w0 R0 => ?_)
    (refine AO.append' (i := 1) rfl rfl rfl rfl (by rfl) (by rfl) rfl rfl rfl (by exact SrcA.ro TyD.ax (by rfl) (Nat.le_of_ble_eq_true rfl)) (by rfl) (by (unfold maxLen; omega)) (by omega) (by (dsimp only [List.set, List.append, List.cons_append, List.nil_append, roB_cells, roI_cells, roO_cells, splice, ofConst, AV.cells, List.map, List.map_cons, List.map_nil, List.take, List.drop, Nat.zero_add, Nat.add_zero, Nat.reduceAdd, Nat.reduceMul, Nat.zero_mul, Value.cells, List.toList_toArray, zerosA, List.replicate, List.flatten, List.append_nil]; done)) (fun _ => by (dsimp only [List.set]; done)) ?_)
    intro V6 hV6
    refine AO.g ?_
    refine G.freezeRow 1 rfl [30] (by repeat (first | exact frNil | refine frCons rfl ?_)) ?_
    refine AO.u ?_
    dsimp only [List.map, List.eraseIdx, List.cons_append, List.nil_append]
    refine AM.ok ?_
    dsimp only [putE]
    refine AM.nil ?_
    try dsimp only [List.cons_append, List.nil_append]
    refine AMS.go (by exact splitNil) ?_
    try dsimp only [List.eraseIdx]
    (refine AM.op rfl (O.call rfl Try.func48 rfl rfl rfl (set_of (m := oM os) (n := numsL.getD z3.toNat 0) (vs := allV os (numsL.getD z3.toNat 0) ++ [x5]) (N := (allV os (numsL.getD z3.toNat 0)).length + 1) (xs := bsA (allV os (numsL.getD z3.toNat 0)) ++ [roB x5]) (by rw [List.length_append]; rfl) (bsA_snoc _ _).symm (by simp) (by simp) (by show os.length ≤ 100000; omega) (by rw [List.length_append]; simp only [List.length_cons, List.length_nil]; omega) ho.big (ho.vals hx5))) rfl rfl rfl ?_)
    refine AM.nil ?_
    try dsimp only [List.cons_append, List.nil_append]
    refine AMS.go (by exact (by exact splitBlk 5 1 rfl rfl splitNil)) ?_
    try dsimp only [List.eraseIdx]
    refine AM.main _ rfl (fun w0 R0 => ?_)
    (refine AO.store (i := 0) rfl rfl rfl rfl rfl rfl (by rfl) (by rfl) (by rfl) (by (dsimp only [List.set, List.append, List.cons_append, List.nil_append, roB_cells, roI_cells, roO_cells, splice, ofConst, AV.cells, List.map, List.map_cons, List.map_nil, List.take, List.drop, Nat.zero_add, Nat.add_zero, Nat.reduceAdd, Nat.reduceMul, Nat.zero_mul, Value.cells, List.toList_toArray, zerosA, List.replicate, List.flatten, List.append_nil]; done)) (by (dsimp only [List.set, List.append, List.cons_append, List.nil_append, roB_cells, roI_cells, roO_cells, splice, ofConst, AV.cells, List.map, List.map_cons, List.map_nil, List.take, List.drop, Nat.zero_add, Nat.add_zero, Nat.reduceAdd, Nat.reduceMul, Nat.zero_mul, Value.cells, List.toList_toArray, zerosA, List.replicate, List.flatten, List.append_nil]; done)) ?_)
    refine AM.okN ?_
    dsimp only [putE]
    refine AM.nil ?_
    try dsimp only [List.cons_append, List.nil_append]
    refine AMS.nil ?_
    refine AQ.blockN ?_
    refine AQ.thenN ?_
    refine AW.region ?_
    refine AO.op (O.move rfl rfl) rfl rfl rfl ?_
    refine AO.op (O.sub rfl rfl rfl (by exact wI64 (by omega))) rfl rfl rfl ?_
    refine AO.op (O.assign rfl rfl) rfl rfl rfl ?_
    refine AO.nil ?_
    rw [show ((j + 1 : Nat) : Int) - 1 = (j : Int) by omega]
    have hadd := ho.add (nums_in z3.toNat) hx5
    rw [show n - (j + 1) + 1 = n - j by omega] at hadd
    refine AQ.loopKN _ _ _ (by omega) (⟨j, _, _, by omega, hadd, ‹_›, rfl, rfl, rfl⟩) (by repeat (first | exact envNil | refine envCons rfl ?_)) (by repeat (first | exact envNil | refine envCons rfl ?_)) (by repeat (first | exact subPnil | refine subPcons 0 rfl ?_ | refine subPcons 1 rfl ?_))
  · skip
    obtain rfl : c = 0 := by omega
    refine AW.exit ?_
    refine AQ.thenX ?_
    refine AQ.loopX ?_
    refine AQ.blockX rfl ?_
    refine AQ.thenN ?_
    refine AW.seq ?_
    refine AW.region ?_
    refine AO.op (O.fieldAddr rfl rfl) rfl rfl rfl ?_
    refine AO.op (O.load rfl rfl (by repeat (first | exact List.Mem.head _ | refine List.Mem.tail _ ?_)) (by rfl)) rfl rfl rfl ?_
    refine AO.op (O.assign rfl rfl) rfl rfl rfl ?_
    refine AO.nil ?_
    refine AQ.thenN ?_
    refine AW.ret ?_
    refine AQ.ret1 rfl rfl ⟨_, by repeat (first | exact List.Sublist.slnil | refine List.Sublist.cons_cons _ ?_ | refine List.Sublist.cons _ ?_), List.Perm.refl _⟩ (⟨⟨os, ho, rfl⟩, kk, hkk, rfl⟩)
def MsgOk (c : Int) (m : Msg) : Prop := ValM m ∧ m.code = c ∧ m.tok.length ≤ 8 ∧ m.pay.length ≤ 20 ∧ m.opts.length ≤ 5 ∧ ∀ o ∈ m.opts, o.val.length ≤ 5
def IsMsg (c : Int) (r : AV) : Prop := ∃ m, MsgOk c m ∧ r = aggM m
theorem MsgOk.sm {c : Int} {m : Msg} (h : MsgOk c m) : SmM m := ⟨by have := h.2.2.1; omega, by have := h.2.2.2.1; omega, by have := h.2.2.2.2.1; omega, fun o ho => by have := h.2.2.2.2.2 o ho; omega⟩
theorem raw_small {m : Msg} (h1 : m.tok.length ≤ 8) (h2 : m.pay.length ≤ 20) (h3 : m.opts.length ≤ 5) (ha : AscO 0 m.opts) (h4 : ∀ o ∈ m.opts, o.val.length ≤ 5) : (raw m).length ≤ 4096 := by
  have key : ∀ (os : List Opt) (l : Int), (∀ o ∈ os, o.val.length ≤ 5) → (rawO l os).length ≤ os.length * 10 := by
    intro os
    induction os with
    | nil => intro l _; simp [rawO]
    | cons o os ih =>
      intro l h
      have g1 := ih o.num fun p hp => h p (List.mem_cons_of_mem _ hp)
      have g2 := hdr_len (o.num - l) o.val.length
      have g3 := h o (List.mem_cons_self ..)
      simp only [rawO, List.length_append, List.length_cons]; omega
  have g1 := key m.opts 0 h4
  have g2 : (if m.pay = [] then [] else (255 : UInt8) :: m.pay).length ≤ m.pay.length + 1 := by split <;> simp
  simp only [raw, headM, List.length_append, List.length_cons, List.length_nil] at g2 ⊢
  omega
theorem MsgOk.mk {t c i : Int} {x p : List UInt8} {os : List Opt} (ht : 0 ≤ t ∧ t < 2) (hc : CodeOk c) (hc0 : c ≠ 0) (hi : 0 ≤ i ∧ i < 65536) (hx : x.length ≤ 4) (ho : OptsOk 5 os) (hp : p.length ≤ 20) : MsgOk c ⟨t, c, i, x, os, p⟩ := by
  refine ⟨⟨⟨⟨ht.1, by simp only; omega, hc.1, hc.2.1, hc.2.2⟩, ⟨hi.1, by simp only; omega, by simp only; omega, by have := ho.2.1; simp only; omega⟩, ho.1, fun h => absurd h hc0, fun h => by simp only at h; omega, by simp only; omega⟩, ?_⟩, rfl, by simp only; omega, hp, ho.2.1, ho.2.2⟩
  have := raw_small (m := ⟨t, c, i, x, os, p⟩) (by simp only; omega) hp ho.2.1 ho.1 ho.2.2
  omega
theorem MsgOk.zero {t i : Int} (ht : 0 ≤ t ∧ t < 4) (hi : 0 ≤ i ∧ i < 65536) : MsgOk 0 ⟨t, 0, i, [], [], []⟩ := by
  refine ⟨⟨⟨⟨ht.1, by simp only; omega, by simp, by simp, .inl rfl⟩, ⟨hi.1, by simp only; omega, by simp, by simp⟩, trivial, fun _ => by simp, fun _ => rfl, by simp⟩, ?_⟩, rfl, by simp, by simp, by simp, by simp⟩
  have := raw_small (m := ⟨t, 0, i, [], [], []⟩) (by simp) (by simp) (by simp) trivial (by simp)
  omega
set_option maxHeartbeats 4000000 in
theorem message_any (b : Nat) (l : List Int) (k : Nat) (c : Int) (hc : CodeOk c) (hl : l.length ≤ maxLen) (hk : k ≤ l.length) :
    Sp Try.prog 13 [ptr b, .val (.int .i64 c)] [deck b l k] (Gen b l (IsMsg c)) := by
  refine Sp.enter Try.func13 rfl _ Try.ntmps13 rfl (fun w0 R0 => ?_)
  refine AW.seq ?_
  refine AW.region ?_
  refine AO.opB (O.alloc rfl (by (dsimp only [List.set, List.append, List.cons_append, List.nil_append, roB_cells, roI_cells, roO_cells, splice, ofConst, AV.cells, List.map, List.map_cons, List.map_nil, List.take, List.drop, Nat.zero_add, Nat.add_zero, Nat.reduceAdd, Nat.reduceMul, Nat.zero_mul, Value.cells, List.toList_toArray, zerosA, List.replicate, List.flatten, List.append_nil]; done)) (by rfl)) rfl rfl rfl ?_
  intro B1
  refine AO.nil ?_
  refine AQ.thenN ?_
  refine AW.seq ?_
  refine AW.region ?_
  refine AO.op (O.move rfl rfl) rfl rfl rfl ?_
  refine AO.callMG 1 rfl rfl Try.func36 rfl rfl rfl rfl rfl rfl (next_any _ l _ _ hl (by assumption) (by omega) (by omega)) ?_
  rintro _ _ ⟨⟨z2, hz02, hz12, rfl⟩, kd2, hkd2, rfl⟩
  dsimp only [List.cons_append, List.nil_append, List.eraseIdx]
  refine AO.op (O.move rfl rfl) rfl rfl rfl ?_
  refine AO.op (O.move rfl rfl) rfl rfl rfl ?_
  refine AO.callMG 0 rfl rfl Try.func36 rfl rfl rfl rfl rfl rfl (next_any _ l _ _ hl (by assumption) (by omega) (by omega)) ?_
  rintro _ _ ⟨⟨z3, hz03, hz13, rfl⟩, kd3, hkd3, rfl⟩
  dsimp only [List.cons_append, List.nil_append, List.eraseIdx]
  refine AO.op (O.move rfl rfl) rfl rfl rfl ?_
  refine AO.callMG 0 rfl rfl Try.func37 rfl rfl rfl rfl rfl rfl (bytes_any _ l _ 4 hl (by assumption) (by omega)) ?_
  rintro _ _ ⟨⟨x4, hx4, rfl⟩, kd4, hkd4, rfl⟩
  dsimp only [List.cons_append, List.nil_append, List.eraseIdx]
  refine AO.op (O.move rfl rfl) rfl rfl rfl ?_
  refine AO.callMG 0 rfl rfl Try.func28 rfl rfl rfl rfl rfl rfl (options_any _ l _ 5 hl (by assumption) (by omega)) ?_
  rintro _ _ ⟨⟨os5, hos5, rfl⟩, kd5, hkd5, rfl⟩
  dsimp only [List.cons_append, List.nil_append, List.eraseIdx]
  refine AO.op (O.move rfl rfl) rfl rfl rfl ?_
  refine AO.callMG 0 rfl rfl Try.func37 rfl rfl rfl rfl rfl rfl (bytes_any _ l _ 20 hl (by assumption) (by omega)) ?_
  rintro _ _ ⟨⟨x6, hx6, rfl⟩, kd6, hkd6, rfl⟩
  dsimp only [List.cons_append, List.nil_append, List.eraseIdx]
  refine AO.op (O.build rfl rfl rfl (by rfl)) rfl rfl rfl ?_
  refine AO.opB (O.alloc rfl (by (dsimp only [List.set, List.append, List.cons_append, List.nil_append, roB_cells, roI_cells, roO_cells, splice, ofConst, AV.cells, List.map, List.map_cons, List.map_nil, List.take, List.drop, Nat.zero_add, Nat.add_zero, Nat.reduceAdd, Nat.reduceMul, Nat.zero_mul, Value.cells, List.toList_toArray, zerosA, List.replicate, List.flatten, List.append_nil]; done)) (by rfl)) rfl rfl rfl ?_
  intro B7
  (refine AO.store (i := 0) rfl rfl rfl rfl rfl rfl (by rfl) (by rfl) (by rfl) (by (dsimp only [List.set, List.append, List.cons_append, List.nil_append, roB_cells, roI_cells, roO_cells, splice, ofConst, AV.cells, List.map, List.map_cons, List.map_nil, List.take, List.drop, Nat.zero_add, Nat.add_zero, Nat.reduceAdd, Nat.reduceMul, Nat.zero_mul, Value.cells, List.toList_toArray, zerosA, List.replicate, List.flatten, List.append_nil]; done)) (by (dsimp only [List.set, List.append, List.cons_append, List.nil_append, roB_cells, roI_cells, roO_cells, splice, ofConst, AV.cells, List.map, List.map_cons, List.map_nil, List.take, List.drop, Nat.zero_add, Nat.add_zero, Nat.reduceAdd, Nat.reduceMul, Nat.zero_mul, Value.cells, List.toList_toArray, zerosA, List.replicate, List.flatten, List.append_nil]; done)) ?_)
  refine AO.nil ?_
  refine AQ.thenN ?_
  refine AW.seq ?_
  refine AW.seq ?_
  refine AW.region ?_
  refine AO.op (O.move rfl rfl) rfl rfl rfl ?_
  refine AO.op (O.eql rfl rfl rfl (by rfl)) rfl rfl rfl ?_
  refine AO.nil ?_
  refine AQ.thenN ?_
  refine AW.split rfl (fun h => ?_) (fun h => ?_) <;> (try simp only [decide_eq_true_eq, decide_eq_false_iff_not, beq_iff_eq, beq_eq_false_iff_ne, bne_iff_ne, bne_eq_false_iff_eq, Bool.not_eq_true', Bool.not_eq_false', Bool.not_eq_true, Bool.not_eq_false, ne_eq, Int.not_lt, Int.not_le, Bool.and_eq_true, Bool.or_eq_true, Bool.or_eq_false_iff, Bool.and_eq_false_imp, strOf_toList, Decidable.not_not] at h)
  · skip
    subst h
    refine AW.region ?_
    refine AO.op (O.move rfl rfl) rfl rfl rfl ?_
    refine AO.callMG 1 rfl rfl Try.func36 rfl rfl rfl rfl rfl rfl (next_any _ l _ _ hl (by assumption) (by omega) (by omega)) ?_
    rintro _ _ ⟨⟨z8, hz08, hz18, rfl⟩, kd8, hkd8, rfl⟩
    dsimp only [List.cons_append, List.nil_append, List.eraseIdx]
    refine AO.op (O.fieldAddr rfl rfl) rfl rfl rfl ?_
    (refine AO.store (i := 1) rfl rfl rfl rfl rfl rfl (by rfl) (by rfl) (by rfl) (by (dsimp only [List.set, List.append, List.cons_append, List.nil_append, roB_cells, roI_cells, roO_cells, splice, ofConst, AV.cells, List.map, List.map_cons, List.map_nil, List.take, List.drop, Nat.zero_add, Nat.add_zero, Nat.reduceAdd, Nat.reduceMul, Nat.zero_mul, Value.cells, List.toList_toArray, zerosA, List.replicate, List.flatten, List.append_nil]; done)) (by (dsimp only [List.set, List.append, List.cons_append, List.nil_append, roB_cells, roI_cells, roO_cells, splice, ofConst, AV.cells, List.map, List.map_cons, List.map_nil, List.take, List.drop, Nat.zero_add, Nat.add_zero, Nat.reduceAdd, Nat.reduceMul, Nat.zero_mul, Value.cells, List.toList_toArray, zerosA, List.replicate, List.flatten, List.append_nil]; done)) ?_)
    refine AO.op (O.fieldAddr rfl rfl) rfl rfl rfl ?_
    (refine AO.store (i := 1) rfl rfl rfl rfl rfl rfl (by rfl) (by rfl) (by rfl) (by (dsimp only [List.set, List.append, List.cons_append, List.nil_append, roB_cells, roI_cells, roO_cells, splice, ofConst, AV.cells, List.map, List.map_cons, List.map_nil, List.take, List.drop, Nat.zero_add, Nat.add_zero, Nat.reduceAdd, Nat.reduceMul, Nat.zero_mul, Value.cells, List.toList_toArray, zerosA, List.replicate, List.flatten, List.append_nil]; done)) (by (dsimp only [List.set, List.append, List.cons_append, List.nil_append, roB_cells, roI_cells, roO_cells, splice, ofConst, AV.cells, List.map, List.map_cons, List.map_nil, List.take, List.drop, Nat.zero_add, Nat.add_zero, Nat.reduceAdd, Nat.reduceMul, Nat.zero_mul, Value.cells, List.toList_toArray, zerosA, List.replicate, List.flatten, List.append_nil]; done)) ?_)
    refine AO.op (O.fieldAddr rfl rfl) rfl rfl rfl ?_
    (refine AO.store (i := 1) rfl rfl rfl rfl rfl rfl (by rfl) (by rfl) (by rfl) (by (dsimp only [List.set, List.append, List.cons_append, List.nil_append, roB_cells, roI_cells, roO_cells, splice, ofConst, AV.cells, List.map, List.map_cons, List.map_nil, List.take, List.drop, Nat.zero_add, Nat.add_zero, Nat.reduceAdd, Nat.reduceMul, Nat.zero_mul, Value.cells, List.toList_toArray, zerosA, List.replicate, List.flatten, List.append_nil]; done)) (by (dsimp only [List.set, List.append, List.cons_append, List.nil_append, roB_cells, roI_cells, roO_cells, splice, ofConst, AV.cells, List.map, List.map_cons, List.map_nil, List.take, List.drop, Nat.zero_add, Nat.add_zero, Nat.reduceAdd, Nat.reduceMul, Nat.zero_mul, Value.cells, List.toList_toArray, zerosA, List.replicate, List.flatten, List.append_nil]; done)) ?_)
    refine AO.op (O.fieldAddr rfl rfl) rfl rfl rfl ?_
    (refine AO.store (i := 1) rfl rfl rfl rfl rfl rfl (by rfl) (by rfl) (by rfl) (by (dsimp only [List.set, List.append, List.cons_append, List.nil_append, roB_cells, roI_cells, roO_cells, splice, ofConst, AV.cells, List.map, List.map_cons, List.map_nil, List.take, List.drop, Nat.zero_add, Nat.add_zero, Nat.reduceAdd, Nat.reduceMul, Nat.zero_mul, Value.cells, List.toList_toArray, zerosA, List.replicate, List.flatten, List.append_nil]; done)) (by (dsimp only [List.set, List.append, List.cons_append, List.nil_append, roB_cells, roI_cells, roO_cells, splice, ofConst, AV.cells, List.map, List.map_cons, List.map_nil, List.take, List.drop, Nat.zero_add, Nat.add_zero, Nat.reduceAdd, Nat.reduceMul, Nat.zero_mul, Value.cells, List.toList_toArray, zerosA, List.replicate, List.flatten, List.append_nil]; done)) ?_)
    refine AO.nil ?_
    refine AQ.thenN ?_
    refine AW.seq ?_
    refine AW.region ?_
    (refine AO.op (O.loadK rfl rfl (by repeat (first | exact List.Mem.head _ | refine List.Mem.tail _ ?_)) (by (dsimp only [List.set, List.append, List.cons_append, List.nil_append, roB_cells, roI_cells, roO_cells, splice, ofConst, AV.cells, List.map, List.map_cons, List.map_nil, List.take, List.drop, Nat.zero_add, Nat.add_zero, Nat.reduceAdd, Nat.reduceMul, Nat.zero_mul, Value.cells, List.toList_toArray, zerosA, List.replicate, List.flatten, List.append_nil]; done)) (by rfl)) rfl rfl rfl ?_)
    refine AO.op (O.callC rfl Try.func38 rfl rfl rfl (copy_fn ⟨z8, 0, z3, [], [], []⟩ ⟨by simp, by simp, by simp, by simp⟩) (by repeat (first | exact CoeL.nil | refine CoeL.cons Coe.rfl ?_ | refine CoeL.cons Coe.nil ?_ | refine CoeL.cons (Coe.agg ?_) ?_))) rfl rfl rfl ?_
    (refine AO.store (i := 2) rfl rfl rfl rfl rfl rfl (by rfl) (by rfl) (by rfl) (by (dsimp only [List.set, List.append, List.cons_append, List.nil_append, roB_cells, roI_cells, roO_cells, splice, ofConst, AV.cells, List.map, List.map_cons, List.map_nil, List.take, List.drop, Nat.zero_add, Nat.add_zero, Nat.reduceAdd, Nat.reduceMul, Nat.zero_mul, Value.cells, List.toList_toArray, zerosA, List.replicate, List.flatten, List.append_nil]; done)) (by (dsimp only [List.set, List.append, List.cons_append, List.nil_append, roB_cells, roI_cells, roO_cells, splice, ofConst, AV.cells, List.map, List.map_cons, List.map_nil, List.take, List.drop, Nat.zero_add, Nat.add_zero, Nat.reduceAdd, Nat.reduceMul, Nat.zero_mul, Value.cells, List.toList_toArray, zerosA, List.replicate, List.flatten, List.append_nil]; done)) ?_)
    refine AO.nil ?_
    refine AQ.thenN ?_
    refine AW.ret ?_
    refine FnQ.coe (AQ.retCell rfl rfl (by repeat (first | exact List.Mem.head _ | refine List.Mem.tail _ ?_)) (by (dsimp only [List.set, List.append, List.cons_append, List.nil_append, roB_cells, roI_cells, roO_cells, splice, ofConst, AV.cells, List.map, List.map_cons, List.map_nil, List.take, List.drop, Nat.zero_add, Nat.add_zero, Nat.reduceAdd, Nat.reduceMul, Nat.zero_mul, Value.cells, List.toList_toArray, zerosA, List.replicate, List.flatten, List.append_nil]; done)) (by rfl) ⟨_, by repeat (first | exact List.Sublist.slnil | refine List.Sublist.cons_cons _ ?_ | refine List.Sublist.cons _ ?_), List.Perm.refl _⟩ ⟨rfl, rfl⟩) (Coe.agg (by repeat (first | exact CoeL.nil | refine CoeL.cons Coe.rfl ?_))) (⟨⟨⟨z8, 0, z3, [], [], []⟩, MsgOk.zero ⟨hz08, hz18⟩ ⟨hz03, hz13⟩, rfl⟩, _, hkd8, rfl⟩)
  · skip
    have hmm := MsgOk.mk ⟨hz02, hz12⟩ hc h ⟨hz03, hz13⟩ hx4 hos5 hx6
    refine AW.skip ?_
    refine AQ.thenN ?_
    refine AW.seq ?_
    refine AW.region ?_
    (refine AO.op (O.loadK rfl rfl (by repeat (exact List.Mem.head _)) (by (dsimp only [List.set, List.append, List.cons_append, List.nil_append, roB_cells, roI_cells, roO_cells, splice, ofConst, AV.cells, List.map, List.map_cons, List.map_nil, List.take, List.drop, Nat.zero_add, Nat.add_zero, Nat.reduceAdd, Nat.reduceMul, Nat.zero_mul, Value.cells, List.toList_toArray, zerosA, List.replicate, List.flatten, List.append_nil]; done)) (by rfl)) rfl rfl rfl ?_)
    refine AO.op (O.call rfl Try.func38 rfl rfl rfl (copy_fn ⟨z2, c, z3, x4, os5, x6⟩ hmm.sm)) rfl rfl rfl ?_
    (refine AO.store (i := 2) rfl rfl rfl rfl rfl rfl (by rfl) (by rfl) (by rfl) (by (dsimp only [List.set, List.append, List.cons_append, List.nil_append, roB_cells, roI_cells, roO_cells, splice, ofConst, AV.cells, List.map, List.map_cons, List.map_nil, List.take, List.drop, Nat.zero_add, Nat.add_zero, Nat.reduceAdd, Nat.reduceMul, Nat.zero_mul, Value.cells, List.toList_toArray, zerosA, List.replicate, List.flatten, List.append_nil]; done)) (by (dsimp only [List.set, List.append, List.cons_append, List.nil_append, roB_cells, roI_cells, roO_cells, splice, ofConst, AV.cells, List.map, List.map_cons, List.map_nil, List.take, List.drop, Nat.zero_add, Nat.add_zero, Nat.reduceAdd, Nat.reduceMul, Nat.zero_mul, Value.cells, List.toList_toArray, zerosA, List.replicate, List.flatten, List.append_nil]; done)) ?_)
    refine AO.nil ?_
    refine AQ.thenN ?_
    refine AW.ret ?_
    refine FnQ.coe (AQ.retCell rfl rfl (by repeat (first | exact List.Mem.head _ | refine List.Mem.tail _ ?_)) (by (dsimp only [List.set, List.append, List.cons_append, List.nil_append, roB_cells, roI_cells, roO_cells, splice, ofConst, AV.cells, List.map, List.map_cons, List.map_nil, List.take, List.drop, Nat.zero_add, Nat.add_zero, Nat.reduceAdd, Nat.reduceMul, Nat.zero_mul, Value.cells, List.toList_toArray, zerosA, List.replicate, List.flatten, List.append_nil]; done)) (by rfl) ⟨_, by repeat (first | exact List.Sublist.slnil | refine List.Sublist.cons_cons _ ?_ | refine List.Sublist.cons _ ?_), List.Perm.refl _⟩ ⟨rfl, rfl⟩) (Coe.agg (by repeat (first | exact CoeL.nil | refine CoeL.cons Coe.rfl ?_))) (⟨⟨_, hmm, rfl⟩, _, hkd6, rfl⟩)
end Go.Proofs.Ytiddmpmpjdnmeaa.By
