/-
  Texts laid together (part 3): what the statement's walk and plain law need. No condition.
-/
import Derived.Test.YtojomcdjcpmnkaaGreatZ2
namespace Go.Proofs.YtojomcdjcpmnkaaGreat.A
open Go.RowKit L
set_option linter.unusedVariables false
set_option maxRecDepth 20000
set_option linter.unusedSimpArgs false
section
variable {Γ : Cx} {P : Program} {Q : Exit → Act → World → Prop} {E : Env} {H : List HE} {N : Nat} {o : Oper} {ops : Array Oper} {rest : List Oper}
theorem AO.callMV {f : FuncId} {g : Operand} {cap : List AV} {d : Nat} {xs : List Operand} {ats : Array TypeId} {args : List AV} {H0 H1 : List HE} {Post : AV → List HE → Prop} {fn : Func} (ho : o.op = .call { callee := .value g, args := xs.toArray, argTypes := ats }) (hgd : o.guard = none) (hg : ev E g = some (.fn (.func f) cap)) (hfn : P.funcs[f]? = some fn) (hn : (fn.name == "runtime.NumGoroutine") = false) (hb : fn.body.isNone = false)
  (hx : evs E xs = some args) (hd : o.dst = some d) (hN : d < Γ.N) (hH : H.Perm (H0 ++ H1)) (h : Sp P f (args ++ cap) H0 Post) (next : ∀ r H', Post r H' → AO Γ P ops Q rest ((d, r) :: E) (H' ++ H1)) : AO Γ P ops Q (o :: rest) E H := fun R a W hs ha => by
 have hs0 := hs.perm hH.symm
 obtain ⟨cs, h4, h5⟩ := (ha.ev hg).fn_inv
 have hrun : (execOp a.eval o).run P W = .ok (.enter f ((xs.map a.eval) ++ cs).toArray) W := by
  simp [execOp, ho, resolve, Deferred.ofValue, h4, invoke, callFunc, hfn]
  rw [if_neg (by simpa using hn), if_neg (fun e => by rw [e] at hb; cases hb)]
 have hc := h W R (xs.map a.eval ++ cs) hs.rlt (fun e he => ⟨hs0.ok e (List.mem_append_left _ he), fun b hb => (hs0.own e (List.mem_append_left _ he) b hb).2⟩) (List.pairwise_append.1 hs0.disj).1 ((ha.evs hx).app h5)
 unfold wpList
 rw [if_pos (by unfold Region.wanted; rw [hgd])]
 refine .inl ?_
 unfold Oper.wp
 rw [hrun]
 refine Calls.mono hc ?_
 rintro e W' ⟨u, r, H', R', rfl, hP, hs', hv⟩
 show wpList P ops Q rest (a.put o.dst u) W'
 rw [hd]
 have hS0 : ∀ b, footOf H0 b → Γ.w0.heap.size ≤ b ∨ Γ.S b := fun b ⟨e, he, hb⟩ => (hs0.own e (List.mem_append_left _ he) b hb).1
 have hnR : ∀ b, footOf H0 b → ¬ R b := fun b ⟨e, he, hb⟩ => (hs0.own e (List.mem_append_left _ he) b hb).2
 have h1lt : ∀ e ∈ H1, ∀ b, e.foot b → b < W.heap.size := fun e he b hb => HE.ok_lt (hs0.ok e (List.mem_append_right _ he)) hb
 have h10 : ∀ e ∈ H1, ∀ b, e.foot b → ¬ footOf H0 b := fun e he b hb ⟨f, hf, hb'⟩ => (List.pairwise_append.1 hs0.disj).2.2 f hf e he b hb' hb
 have hR : ∀ b, R b → W'.heap[b]? = W.heap[b]? := fun b hb => hs'.mods.block b (hs.rlt b hb) fun hh => hnR b hh hb
 refine next r H' hP R' _ W' ⟨Mods.then hs.mods hs'.mods fun b hb hh => ?_, hs'.rlt, fun b hb => hs'.rsub b (hs.rsub b hb), fun b hb => ?_, ?_, ?_, ?_⟩ ((ha.mono hs'.rsub hR).put hN hv)
 ·rcases hS0 b hh with h | h
  ·omega
  ·exact h
 ·rcases hs'.rnew b hb with h | h | h
  ·exact hs.rnew b h
  ·exact .inr (.inl (Nat.le_trans hs.mods.size h))
  ·exact .inr (hS0 b h)
 ·intro e he
  rcases List.mem_append.1 he with he | he
  ·exact hs'.ok e he
  ·exact HE.ok_mono hs'.rsub hR hs'.mods.size (fun b hb => hs'.mods.block b (h1lt e he b hb) (h10 e he b hb)) (hs0.ok e (List.mem_append_right _ he))
 ·intro e he b hb
  rcases List.mem_append.1 he with he | he
  ·obtain ⟨h2, h3⟩ := hs'.own e he b hb
   refine ⟨?_, h3⟩
   rcases h2 with h2 | h2
   ·exact .inl (Nat.le_trans hs.mods.size h2)
   ·exact hS0 b h2
  ·refine ⟨(hs0.own e (List.mem_append_right _ he) b hb).1, fun hr => ?_⟩
   rcases hs'.rnew b hr with h | h | h
   ·exact (hs0.own e (List.mem_append_right _ he) b hb).2 h
   ·have h5 := h1lt e he b hb
    exact absurd h (by simpa using h5)
   ·exact h10 e he b hb h
 ·rw [List.pairwise_append]
  refine ⟨hs'.disj, (List.pairwise_append.1 hs0.disj).2.1, fun e he f hf b hb hb' => ?_⟩
  rcases (hs'.own e he b hb).1 with h | h
  ·have h5 := h1lt f hf b hb'
   exact absurd h (by simpa using h5)
  ·exact h10 f hf b hb' h
theorem AO.callMV1 {f : FuncId} {g : Operand} {cap : List AV} {d : Nat} {xs : List Operand} {ats : Array TypeId} {args : List AV} {i : Nat} {e e' : HE} {v : AV} {H' : List HE} {fn : Func} (ho : o.op = .call { callee := .value g, args := xs.toArray, argTypes := ats }) (hgd : o.guard = none) (hg : ev E g = some (.fn (.func f) cap)) (hfn : P.funcs[f]? = some fn) (hn : (fn.name == "runtime.NumGoroutine") = false) (hb : fn.body.isNone = false)
  (hx : evs E xs = some args) (hd : o.dst = some d) (hN : Nat.ble (d + 1) Γ.N = true) (hi : H[i]? = some e) (h : Sp P f (args ++ cap) [e] (IsM v e')) (hH : H.set i e' = H') (next : AO Γ P ops Q rest ((d, v) :: E) H') : AO Γ P ops Q (o :: rest) E H :=
 AO.callMV (H0 := [e]) (H1 := H.eraseIdx i) ho hgd hg hfn hn hb hx hd (Nat.le_of_ble_eq_true hN) (perm_idx hi) h (by
  rintro _ _ ⟨rfl, rfl⟩
  exact AO.perm (by rw [← hH]; exact perm_set hi) next)
end
end Go.Proofs.YtojomcdjcpmnkaaGreat.A
namespace Go.Proofs.YtojomcdjcpmnkaaGreat.A
open Go.RowKit L
set_option linter.unusedVariables false
set_option maxRecDepth 20000
set_option linter.unusedSimpArgs false
section
variable {Γ : Cx} {P : Program} {Q : Exit → Act → World → Prop} {E : Env} {H : List HE} {N : Nat} {o : Oper} {ops : Array Oper} {rest : List Oper}
theorem run_boundsArr {R : Nat → Prop} {W : World} {a : Act} {low high : Option Operand} {n cap : Nat} {l h : Int} (ha : RelA N R W E a) (hl : bndV E low 0 = some l) (hh : bndV E high n = some h) (h0 : 0 ≤ l ∧ l ≤ h ∧ h ≤ cap) :
  (Instr.sliceBounds false n cap (low.map a.eval) (high.map a.eval) none).run P W = .ok (l.toNat, h.toNat, cap) W := by
 obtain ⟨h1, h2, hhc⟩ := h0
 cases high with
 | none =>
  obtain rfl : (n : Int) = h := by simpa [bndV] using hh
  cases low with
  | none =>
   obtain rfl : (0 : Int) = l := by simpa [bndV] using hl
   simp [Instr.sliceBounds]
  | some x =>
   obtain ⟨k, hk⟩ := bnd_ev ha hl
   simp [Instr.sliceBounds, Instr.sliceBound, hk, asIntOf, h1, h2]
 | some y =>
  obtain ⟨k', hk'⟩ := bnd_ev ha hh
  have h4 : 0 ≤ h := by omega
  cases low with
  | none =>
   obtain rfl : (0 : Int) = l := by simpa [bndV] using hl
   simp [Instr.sliceBounds, Instr.sliceBound, hk', asIntOf, h4, hhc]
  | some x =>
   obtain ⟨k, hk⟩ := bnd_ev ha hl
   have h5 : l ≤ max h 0 := by omega
   simp [Instr.sliceBounds, Instr.sliceBound, hk, hk', asIntOf, h1, h4, hhc]
   omega
/-- x[l:h] of an array of the walk's own. -/
theorem O.sliceArr {T : Nat} {x : Operand} {low high : Option Operand} {b off n : Nat} {l h : Int} {sz : Nat} [hs : TyL P T n sz] (ho : o.op = .slice T x low high none) (hx : ev E x = some (.val (.pointer (some ⟨b, off, none⟩)))) (hl : bndV E low 0 = some l) (hh : bndV E high n = some h) (h0 : 0 ≤ l ∧ l ≤ h ∧ h ≤ n)
  (hc : l < n) : OpW P N o E H (Is (.val (.slice (some ⟨b, off + l.toNat * sz, none⟩) (h.toNat - l.toNat) (n - l.toNat)))) := .of_run fun R a W h1 h2 ha => by
 obtain ⟨U, i, hu, hi, hi2⟩ := hs.ax
 have hb := run_boundsArr (P := P) (W := W) ha hl hh h0
 refine ⟨_, ?_, .val _⟩
 have hne : ¬ n = l.toNat := by omega
 simp only [execOp, ho, (ha.ev hx).val_inv, Instr.sliceAt, Instr.sureAddr, run_underlying hu, Sem.run_bind, Result.andThen_ok, hb, sizeOf, typeInfo, hi, hi2, run_program, Sem.run_pure, Option.map_none]
 simp [hne, addr_add]
/-- .. of an array that is read only. -/
theorem O.sliceArrR {T : Nat} {x : Operand} {low high : Option Operand} {j n m : Nat} {xs ys : List AV} {l h : Int} {sz : Nat} [hs : TyL P T n sz] (ho : o.op = .slice T x low high none) (hx : ev E x = some (.rp xs j)) (hl : bndV E low 0 = some l) (hh : bndV E high n = some h) (h0 : 0 ≤ l ∧ l ≤ h ∧ h ≤ n)
  (hc : l < n) (hn : n ≤ maxLen) (hm : h.toNat - l.toNat = m) (hy : (xs.drop (j + l.toNat * sz)).take (m * sz) = ys) : OpW P N o E H (Is (.ro false m ys)) := .of_run fun R a W h1 h2 ha => by
 obtain ⟨U, i, hu, hi, hi2⟩ := hs.ax
 have hb := run_boundsArr (P := P) (W := W) ha hl hh h0
 have hv := ha.ev hx
 generalize hux : a.eval x = u at *
 cases hv with
 | rp _ _ b off us hb' hcs hr =>
  have hne : ¬ n = l.toNat := by omega
  refine ⟨.slice (some ⟨b, off + (j + l.toNat * sz), none⟩) (h.toNat - l.toNat) (n - l.toNat), ?_, ?_⟩
  ·simp only [execOp, ho, hux, Instr.sliceAt, Instr.sureAddr, run_underlying hu, Sem.run_bind, Result.andThen_ok, hb, sizeOf, typeInfo, hi, hi2, run_program, Sem.run_pure, Option.map_none]
   simp [hne, addr_add, Nat.add_assoc]
  ·rw [hm]
   subst hy
   refine .ro _ _ _ b (off + (j + l.toNat * sz)) _ (fun q => us (j + l.toNat * sz + q)) hb' (fun q hq => ?_) (fun q hq => ?_) (by omega) (by omega) (fun h => by cases h)
   ·simp at hq
    rw [Nat.add_assoc]
    exact hcs _ (by omega)
   ·simp only [List.getElem_take, List.getElem_drop]
    simp at hq
    exact hr _ (by omega)
theorem O.sliceArrK {p q : Nat} {T : Nat} {x : Operand} {low high : Option Operand} {b off n : Nat} {l h : Int} {sz : Nat} [hs : TyL P T n sz] (ho : o.op = .slice T x low high none) (hx : ev E x = some (.val (.pointer (some ⟨b, off, none⟩)))) (hl : bndV E low 0 = some l) (hh : bndV E high n = some h) (e1 : l = (p : Int)) (e2 : h = (q : Int)) (h0 : p ≤ q ∧ q ≤ n)
  (hc : p < n) : OpW P N o E H (Is (.val (.slice (some ⟨b, off + p * sz, none⟩) (q - p) (n - p)))) := by
 subst e1; subst e2
 have := O.sliceArr (P := P) (N := N) (H := H) ho hx hl hh ⟨by omega, by omega, by omega⟩ (by omega)
 simpa using this
theorem O.sliceArrRK {p q : Nat} {T : Nat} {x : Operand} {low high : Option Operand} {j n : Nat} {xs ys : List AV} {l h : Int} {sz : Nat} [hs : TyL P T n sz] (ho : o.op = .slice T x low high none) (hx : ev E x = some (.rp xs j)) (hl : bndV E low 0 = some l) (hh : bndV E high n = some h) (e1 : l = (p : Int)) (e2 : h = (q : Int)) (h0 : p ≤ q ∧ q ≤ n)
  (hc : p < n) (hn : n ≤ maxLen) (hy : (xs.drop (j + p * sz)).take ((q - p) * sz) = ys) : OpW P N o E H (Is (.ro false (q - p) ys)) := by
 subst e1; subst e2
 exact O.sliceArrR (P := P) (N := N) (H := H) ho hx hl hh ⟨by omega, by omega, by omega⟩ (by omega) hn (by simp) (by simpa using hy)
/-- A slice that is read only as a pointer to an array. -/
theorem O.toArr {T : Nat} {x : Operand} {full : Bool} {n k sz : Nat} {xs : List AV} [hs : TyL P T k sz] (ho : o.op = .sliceToArrayPointer T x) (hx : ev E x = some (.ro full n xs)) (hk : k ≤ n) (hk0 : 0 < k) : OpW P N o E H (Is (.rp xs 0)) := .of_run fun R a W h1 h2 ha => by
 obtain ⟨U, i, hu, hi, hi2⟩ := hs.ax
 have hv := ha.ev hx
 generalize hux : a.eval x = u at *
 cases hv with
 | emp _ ad cap h3 h4 => omega
 | ro _ _ _ b off cap us hb' hcs hr h3 h4 h5 =>
  refine ⟨.pointer (some ⟨b, off, none⟩), ?_, ?_⟩
  ·simp [execOp, ho, hux, Instr.arrayAt, run_underlying hu, Nat.not_lt.2 hk]
  ·exact .rp xs 0 b off us hb' hcs hr
theorem all_take {p : AV → Bool} : ∀ {xs : List AV} (n : Nat), xs.all p = true → (xs.take n).all p = true := fun {xs} n h => by
 rw [List.all_eq_true] at h ⊢
 exact fun x hx => h x (List.mem_of_mem_take hx)
/-- copy of read-only bytes (elements of one cell) into an own block. -/
theorem AO.copyIn {Td Ts : Nat} {x y : Operand} {b off n c m i T' room U bs : Nat} {full : Bool} {ys xs zs : List AV} {zz : Value} {H' : List HE} {d : Option Tmp} [hs : TyS P Td U 1 bs zz] (ho : o.op = .call { callee := .builtin .copy, args := #[x, y], argTypes := #[Td, Ts] }) (hgd : o.guard = none)
  (hx : ev E x = some (.val (.slice (some ⟨b, off, none⟩) n c))) (hy : ev E y = some (.ro full m ys)) (hlen : ys.length = m) (hone : ys.all AV.one = true) (hi : H[i]? = some (.blk b T' room xs)) (hfit : off + min m n ≤ xs.length) (hz : splice xs off (ys.take (min m n)) = zs) (hH : H.set i (.blk b T' room zs) = H')
  (hd : o.dst = d) (hN : ∀ q, d = some q → q < Γ.N) (next : ∀ E', (E' = match d with | some q => (q, .val (.int .i64 (min m n : Nat))) :: E | none => E) → AO Γ P ops Q rest E' H') : AO Γ P ops Q (o :: rest) E H := fun R a W hs' ha => by
 have hmem := List.mem_of_getElem? hi
 obtain ⟨us, cs, hb, hsz, ht, hr⟩ := hs'.ok _ hmem
 have hxs : xs.length ≤ cs.size := by
  have := hr.1
  have h5 : cs.toList.length = cs.size := Array.length_toList
  rw [← ht, List.length_take] at this; omega
 obtain ⟨vs, hvl, hvr, hrun⟩ : ∃ vs : List Value, vs.length = min m n ∧ RelL R W (ys.take (min m n)) vs ∧ (Builtin.copy_ #[Td, Ts] o.type #[a.eval x, a.eval y]).run P W = .ok (goInt ((min m n : Nat) : Int)) (if min m n = 0 then W else W.setRow b (cs.toList.take off ++ vs ++ cs.toList.drop (off + min m n)).toArray) := by
  obtain ⟨inf, hi1, hi2, -⟩ := hs.el
  have hsz1 : (P.info? U).map (·.size) = some 1 := by rw [hi1]; simp [hi2]
  have hvx := (ha.ev hx).val_inv
  have hvy := ha.ev hy
  rw [hvx]
  generalize hux : a.eval y = u at *
  cases hvy with
  | emp _ ad cap h3 h4 =>
   refine ⟨[], by simp, ⟨by simp, by simp⟩, ?_⟩
   have := run_copy_none (P := P) W Td Ts o.type U (some ⟨b, off, none⟩) ad n c 0 cap hs.ty hsz1 (by simp)
   rw [this]; simp [Nat.min_eq_left (Nat.zero_le n)]
  | ro _ _ _ b2 off2 cap us2 hb' hcs hr2 h3 h4 h5 =>
   by_cases h0 : min m n = 0
   ·refine ⟨[], by simp [h0], by rw [h0]; exact ⟨by simp, by simp⟩, ?_⟩
    have := run_copy_none (P := P) W Td Ts o.type U (some ⟨b, off, none⟩) (some ⟨b2, off2, none⟩) n c m cap hs.ty hsz1 h0
    rw [this, if_pos h0, h0]; rfl
   ·let vs := (List.range (min m n)).map us2
    have hvs : ∀ q (hq : q < min m n), vs[q]? = some (us2 q) := fun q hq => by simp [vs, hq]
    have hvsl : vs.length = min m n := by simp [vs]
    refine ⟨vs, hvsl, ⟨by rw [List.length_take, hvsl, hlen]; omega, fun q hq => ?_⟩, ?_⟩
    ·rw [List.length_take, hlen] at hq
     have hq' : q < min m n := by omega
     have := hr2 q (by rw [hlen]; omega)
     simp only [List.getElem_take]
     rw [List.getD, hvs q hq']
     exact this
    ·have h1 : ∀ v ∈ vs, v.oneCell' = true := fun v hv => by
      obtain ⟨q, hq, rfl⟩ := List.mem_map.1 hv
      have hq := List.mem_range.1 hq
      have hql : q < ys.length := by rw [hlen]; omega
      exact (hr2 q hql).one (by rw [List.all_eq_true] at hone; exact hone _ (List.getElem_mem hql))
     have := run_copy_row (P := P) W Td Ts o.type U b off n c ⟨b2, off2, none⟩ m cap cs T' vs hs.ty hsz1 hb (by rw [hvsl]) (fun q v hq => by
      have hql : q < min m n := by have := (List.getElem?_eq_some_iff.1 hq).1; omega
      rw [hvs q hql] at hq
      cases hq
      rw [addr_add]
      exact hcs q (by rw [hlen]; omega)) (by rw [hvsl]; omega) h1
     rw [this, if_neg h0, hvsl]
 have hone' : ∀ v ∈ vs, v.oneCell' = true := fun v hv => by
  obtain ⟨q, hq, rfl⟩ := List.getElem_of_mem hv
  have hql : q < (ys.take (min m n)).length := by rw [← hvr.1]; exact hq
  have h6 := hvr.2 q hql
  have h7 := all_take (min m n) hone
  rw [List.all_eq_true] at h7
  have := h6.one (h7 _ (List.getElem_mem hql))
  simpa [List.getD, hq] using this
 have hylen : (ys.take (min m n)).length = min m n := by rw [← hvr.1, hvl]
 unfold wpList
 rw [if_pos (by unfold Region.wanted; rw [hgd])]
 refine .inl ?_
 unfold Oper.wp
 have hex : (execOp a.eval o).run P W = .ok (.value (.int .i64 (min m n : Nat))) (if min m n = 0 then W else W.setRow b (cs.toList.take off ++ vs ++ cs.toList.drop (off + min m n)).toArray) := by
  simp [execOp, ho, resolve, invoke, builtin, hrun, Result.andThen, goInt]
 rw [hex]
 show wpList P ops Q rest (a.put o.dst _) _
 rw [hd]
 subst hH
 by_cases h0 : min m n = 0
 ·rw [if_pos h0]
  have hzx : zs = xs := by
   rw [← hz]
   have : ys.take (min m n) = [] := by rw [h0]; rfl
   rw [this]; rfl
  have hset : H.set i (.blk b T' room zs) = H := by
   rw [hzx]
   obtain ⟨hil, he⟩ := List.getElem?_eq_some_iff.1 hi
   rw [← he]; exact List.set_getElem_self hil
  refine next _ rfl R _ W (by rw [hset]; exact hs') ?_
  cases d with
  | none => exact ha.none _
  | some q => exact ha.put (hN q rfl) (.val _)
 ·rw [if_neg h0]
  have hm : Mods (fun c => (HE.blk b T' room xs).foot c) W (W.setRow b (cs.toList.take off ++ vs ++ cs.toList.drop (off + min m n)).toArray) := Mods.setRow (S := fun c => (HE.blk b T' room xs).foot c) (Mods.refl _ _) (fun _ => rfl) _
  have hR : ∀ c, R c → (W.setRow b (cs.toList.take off ++ vs ++ cs.toList.drop (off + min m n)).toArray).heap[c]? = W.heap[c]? := fun c hc => hm.block c (hs'.rlt c hc) fun hh => (hs'.own _ hmem c hh).2 hc
  have hok : (HE.blk b T' room zs).ok R (W.setRow b (cs.toList.take off ++ vs ++ cs.toList.drop (off + min m n)).toArray) := by
   refine ⟨_, _, setRow_heap W b cs _ T' _ hb, ?_, rfl, ?_⟩
   ·rw [List.size_toArray, List.length_append, List.length_append, List.length_take, List.length_drop, Array.length_toList, hvl]; omega
   ·rw [← hz, splice_eq _ _ _ (by rw [hylen]; omega), hylen]
    have e : (cs.toList.take off ++ vs ++ cs.toList.drop (off + min m n)).take (xs.take off ++ ys.take (min m n) ++ xs.drop (off + min m n)).length = us.take off ++ vs ++ us.drop (off + min m n) := by
     have hul : us.length = xs.length := hr.1
     generalize hzz : ys.take (min m n) = zz at *
     generalize min m n = k at *
     apply List.ext_getElem?
     intro q
     subst ht
     simp only [List.getElem?_take, List.getElem?_append, List.length_append, List.length_take, List.length_drop, hvl, hylen, Array.length_toList, List.getElem?_drop]
     by_cases q1 : q < off
     ·simp [q1, show q < xs.length by omega, show q < min off xs.length + k + (xs.length - (off + k)) by omega, show q < min off cs.size + k by omega, show q < min off cs.size by omega, show q < min off (min xs.length cs.size) + k by omega, show q < min off (min xs.length cs.size) by omega]
     ·by_cases q2 : q < off + k
      ·simp [show min off xs.length = off by omega, show min off cs.size = off by omega, show min xs.length cs.size = xs.length by omega, q1, q2, show q < off + k + (xs.length - (off + k)) by omega]
      ·by_cases q3 : q < xs.length
       ·simp [show min off xs.length = off by omega, show min off cs.size = off by omega, show min xs.length cs.size = xs.length by omega, q1, q2, show q < off + k + (xs.length - (off + k)) by omega, show off + k + (q - (off + k)) < xs.length by omega]
       ·simp [show min off xs.length = off by omega, show min off cs.size = off by omega, show min xs.length cs.size = xs.length by omega, q1, q2, show ¬ q < off + k + (xs.length - (off + k)) by omega, show ¬ off + k + (q - (off + k)) < xs.length by omega]
    show RelL R _ _ (List.take _ (cs.toList.take off ++ vs ++ cs.toList.drop (off + min m n)))
    rw [e]
    exact (((hr.take off).app hvr).app (hr.drop (off + min m n))).mono (fun _ h => h) hR
  have hs2 := hs'.setEntry (e' := .blk b T' room zs) hi hm (fun c hc => .inl hc) hok
  refine next _ rfl R _ _ hs2 ?_
  cases d with
  | none => exact (ha.keep hR).none _
  | some q => exact (ha.keep hR).put (hN q rfl) (.val _)
/-- Values that hold no memory. -/
def Plain (v : AV) : Prop := (∃ c, v = .val c) ∨ ∃ xs, v = .agg xs ∧ ∀ x ∈ xs, ∃ c, x = .val c
theorem Plain.val {c : Value} : Plain (.val c) := .inl ⟨c, rfl⟩
theorem Plain.rel {v : AV} (h : Plain v) {R R' : Nat → Prop} {W W' : World} {u : Value} (hv : RelV R W v u) : RelV R' W' v u := by
 rcases h with ⟨c, rfl⟩ | ⟨xs, rfl, hx⟩
 ·rw [hv.val_inv]; exact .val _
 ·cases hv with
  | agg _ cs hs hr =>
   refine .agg _ cs hs fun j hj => ?_
   obtain ⟨c, hc⟩ := hx xs[j] (List.getElem_mem hj)
   have := hr j hj
   rw [hc] at this ⊢
   rw [this.val_inv]; exact .val _
inductive LendB (b : Nat) (ys : List AV) : List AV → List AV → Prop
 | nil : LendB b ys [] []
 | same {a : AV} {r r' : List AV} : LendB b ys r r' → LendB b ys (a :: r) (a :: r')
 | lend {j : Nat} {r r' : List AV} : LendB b ys r r' → LendB b ys (.val (.pointer (some ⟨b, j, none⟩)) :: r) (.rp ys j :: r')
theorem blk_rp {R : Nat → Prop} {W : World} {b T room j : Nat} {xs : List AV} (h : HE.ok R W (.blk b T room xs)) : RelV (fun c => R c ∨ c = b) W (.rp xs j) (.pointer (some ⟨b, j, none⟩)) := by
 have := RelV.rp (R := fun c => R c ∨ c = b) (W := W) xs j b 0 (fun q => (W.cell? ⟨b, 0 + q, none⟩).getD undef) (.inr rfl) (fun q hq => by
  obtain ⟨u, hu, _⟩ := blk_cell h (j := q) (v := xs[q]) (by simp [hq])
  rw [Nat.zero_add, hu]; rfl) (fun q hq => by
  obtain ⟨u, hu, hr⟩ := blk_cell h (j := q) (v := xs[q]) (by simp [hq])
  rw [Nat.zero_add, hu]
  exact hr.mono (fun _ h => .inl h) (fun _ _ => rfl))
 simpa using this
theorem LendB.rel {R : Nat → Prop} {W : World} {b T room : Nat} {xs : List AV} (h : HE.ok R W (.blk b T room xs)) {a a' : List AV} (hl : LendB b xs a a') : ∀ {us : List Value}, RelL R W a us → RelL (fun c => R c ∨ c = b) W a' us := by
 induction hl with
 | nil => intro us h; exact h.mono (fun _ h => .inl h) (fun _ _ => rfl)
 | same _ ih =>
  intro us h
  obtain ⟨u, r, rfl, h1, h2⟩ := h.uncons
  exact RelL.cons (h1.mono (fun _ h => .inl h) (fun _ _ => rfl)) (ih h2)
 | lend _ ih =>
  intro us h'
  obtain ⟨u, r, rfl, h1, h2⟩ := h'.uncons
  rw [h1.val_inv]
  exact RelL.cons (blk_rp h) (ih h2)
/-- A call to which an own block is lent for reading, and whose yield holds no memory. -/
theorem O.callLB {f : FuncId} {xs : List Operand} {ats : Array TypeId} {args args' : List AV} {v : AV} {b T room : Nat} {ys : List AV} {fn : Func} (ho : o.op = .call { callee := .value (.func f), args := xs.toArray, argTypes := ats }) (hfn : P.funcs[f]? = some fn) (hn : (fn.name == "runtime.NumGoroutine") = false) (hb : fn.body.isNone = false)
  (hx : evs E xs = some args) (hm : HE.blk b T room ys ∈ H) (h : Sp P f args' [] (Is v)) (hp : Plain v) (hl : LendB b ys args args') : OpW P N o E H (Is v) := fun R a W h0 h2 h3 ha => by
 have hlt : ∀ c, R c ∨ c = b → c < W.heap.size := by
  rintro c (hb | rfl)
  ·exact h0 c hb
  ·exact HE.ok_lt (h2 _ hm) rfl
 unfold Oper.wp
 rw [run_callF ho hfn hn hb, List.map_toArray]
 have hc := h W _ (xs.map a.eval) hlt (fun e he => by cases he) .nil (hl.rel (h2 _ hm) (ha.evs hx))
 refine Calls.mono hc ?_
 rintro e W' ⟨u, r, H', R', rfl, ⟨rfl, rfl⟩, hs, hv⟩
 have p := fn_post1 hs hv hlt
 exact ⟨u, r, [], R, rfl, ⟨rfl, rfl⟩, p.ext, fun _ h => h, fun _ h => .inl h, hp.rel hv, fun _ he => (by cases he), .nil⟩
end
theorem tmodE {a b : Int} (h : 0 ≤ a) : a.tmod b = a % b := Int.tmod_eq_emod_of_nonneg h
theorem wc {a : Int} {b : Int} (h : 0 ≤ a := by omega) : a.tmod b = a % b := tmodE h
theorem quoE {a b : Int} (h : 0 ≤ a ∧ a ≤ 9223372036854775807) (hb : 0 < b) : IntKind.i64.wrap (a.tdiv b) = a / b := by
 rw [Int.tdiv_eq_ediv_of_nonneg h.1]
 have h1 : 0 ≤ a / b := Int.ediv_nonneg h.1 (by omega)
 have h2 : a / b ≤ a := Int.ediv_le_self b h.1
 exact wI64 ⟨by omega, by omega⟩
theorem wx {a : Int} {b : Int} (h : 0 ≤ a ∧ a ≤ 9223372036854775807 := by exact ⟨by omega, by omega⟩) (hb : 0 < b := by omega) : IntKind.i64.wrap (a.tdiv b) = a / b := quoE h hb
/-! Bytes told by a function of their place. -/
def fnB (n : Nat) (f : Nat → UInt8) : List UInt8 := (List.range n).map f
def arB (n : Nat) (f : Nat → UInt8) : List AV := bytesA (fnB n f)
theorem fnB_len (n : Nat) (f : Nat → UInt8) : (fnB n f).length = n := by simp [fnB]
theorem arB_len (n : Nat) (f : Nat → UInt8) : (arB n f).length = n := by simp [arB, bytesA, fnB]
theorem arB_eq (n : Nat) (f : Nat → UInt8) : arB n f = (List.range n).map fun q => AV.val (.int .u8 ((f q).toNat : Int)) := by simp [arB, bytesA, fnB, Function.comp_def]
theorem arB_get {n : Nat} {f : Nat → UInt8} {k : Nat} (h : k < n) {j : Nat} (hj : j = k) : (arB n f)[j]? = some (.val (.int .u8 ((f k).toNat : Int))) := by subst hj; rw [arB_eq]; simp [h]
theorem fnB_congr {n : Nat} {f g : Nat → UInt8} (h : ∀ q, q < n → f q = g q) : fnB n f = fnB n g := List.map_congr_left fun q hq => h q (List.mem_range.1 hq)
theorem arB_congr {n : Nat} {f g : Nat → UInt8} (h : ∀ q, q < n → f q = g q) : arB n f = arB n g := congrArg bytesA (fnB_congr h)
theorem fnB_dt {n : Nat} {f : Nat → UInt8} {j k : Nat} (h : j + k ≤ n) : ((fnB n f).drop j).take k = fnB k fun q => f (j + q) := by
 apply List.ext_getElem?
 intro q
 by_cases hq : q < k
 ·simp [fnB, hq, List.getElem?_take, show j + q < n by omega]
 ·simp [fnB, hq, List.getElem?_take]
theorem arB_dt {n : Nat} {f : Nat → UInt8} {j k : Nat} (h : j + k ≤ n) : ((arB n f).drop j).take k = arB k fun q => f (j + q) := by
 rw [arB, bytesA, ← List.map_drop, ← List.map_take, fnB_dt h]; rfl
theorem arB_one (n : Nat) (f : Nat → UInt8) : (arB n f).all AV.one = true := by
 rw [List.all_eq_true, arB_eq]
 intro x hx
 obtain ⟨q, _, rfl⟩ := List.mem_map.1 hx
 rfl
theorem plain_arB (n : Nat) (f : Nat → UInt8) : Plain (.agg (arB n f)) := .inr ⟨_, rfl, fun x hx => by
 rw [arB_eq] at hx
 obtain ⟨q, _, rfl⟩ := List.mem_map.1 hx
 exact ⟨_, rfl⟩⟩
/-- One byte written. -/
theorem arB_set {n : Nat} {f : Nat → UInt8} {k : Nat} (h : k < n) (v : UInt8) {j : Nat} (hj : j = k) : splice (arB n f) j [.val (.int .u8 (v.toNat : Int))] = arB n (fun q => if q = k then v else f q) := by
 subst hj
 show (arB n f).set j _ = _
 apply List.ext_getElem?
 intro q
 rw [List.getElem?_set, arB_eq, arB_eq]
 by_cases hq : q < n
 ·by_cases e : j = q
  ·subst e; simp [h]
  ·simp [hq, e, show ¬ q = j from fun e' => e e'.symm]
 ·by_cases e : j = q
  ·subst e; omega
  ·simp [hq, e]
/-- Several. -/
theorem arB_splice {n : Nat} {f g : Nat → UInt8} {j k : Nat} (h : j + k ≤ n) : splice (arB n f) j (arB k g) = arB n (fun q => if j ≤ q ∧ q < j + k then g (q - j) else f q) := by
 rw [splice_eq _ _ _ (by rw [arB_len, arB_len]; omega), arB_len]
 apply List.ext_getElem?
 intro q
 simp only [List.getElem?_append, List.length_append, List.length_take, arB_len, List.getElem?_take, List.getElem?_drop]
 rw [arB_eq, arB_eq, arB_eq]
 by_cases q1 : q < j
 ·simp [q1, show q < n by omega, show q < min j n + k by omega, show q < min j n by omega, show ¬ j ≤ q by omega]
 ·by_cases q2 : q < j + k
  ·simp [q1, q2, show min j n = j by omega, show j ≤ q by omega, show q - j < k by omega, show q < n by omega]
  ·by_cases q3 : q < n
   ·simp [q1, q2, q3, show min j n = j by omega, show j + k + (q - (j + k)) = q by omega]
   ·simp [q1, q2, q3, show min j n = j by omega, show n ≤ j + k + (q - (j + k)) by omega]
theorem splice_full {xs cs : List AV} (h : xs.length = cs.length) : splice xs 0 cs = cs := by
 rw [splice_eq _ _ _ (by omega)]
 simp [h]
theorem splice_arB {xs : List AV} {n : Nat} {f : Nat → UInt8} (h : xs.length = n) : splice xs 0 (arB n f) = arB n f := splice_full (by rw [h, arB_len])
theorem roB_fnB (n : Nat) (f : Nat → UInt8) : roB (fnB n f) = .ro false n (arB n f) := by unfold roB; rw [fnB_len]; rfl
end Go.Proofs.YtojomcdjcpmnkaaGreat.A
namespace Go.Proofs.YtojomcdjcpmnkaaGreat.By
open Go.RowKit L A
set_option linter.unusedVariables false
set_option maxRecDepth 20000
set_option linter.unusedSimpArgs false
/-- The bytes of a number, the first one first. -/
def beB : Nat → Nat → List UInt8
 | 0, _ => []
 | k + 1, n => beB k (n / 256) ++ [UInt8.ofNat n]
def headB (m n : Nat) : List UInt8 :=
 if n < 24 then [UInt8.ofNat (32 * m + n)] else if n < 256 then UInt8.ofNat (32 * m + 24) :: beB 1 n else if n < 65536 then UInt8.ofNat (32 * m + 25) :: beB 2 n
 else if n < 4294967296 then UInt8.ofNat (32 * m + 26) :: beB 4 n else UInt8.ofNat (32 * m + 27) :: beB 8 n
def strB (b : List UInt8) : List UInt8 := headB 2 b.length ++ b
def txtB (b : List UInt8) : List UInt8 := headB 3 b.length ++ b
def natB (n : Nat) : List UInt8 := headB 0 n
def arrB (l : List (List UInt8)) : List UInt8 := headB 4 l.length ++ l.flatten
def infoB (id ctx : List UInt8) (has : Bool) (kind : List UInt8) (n : Nat) : List UInt8 := arrB [strB id, if has then strB ctx else [0xf6], natB 10, txtB kind, natB n]
def keyT : List UInt8 := [75, 101, 121]
def ivT : List UInt8 := [73, 86]
def encT : List UInt8 := [69, 110, 99, 114, 121, 112, 116, 48]
/-- Associated data; pb: the bytes of the number. -/
def aadB (kid pb : List UInt8) : List UInt8 := arrB [txtB encT, strB [], strB (arrB [natB 1, arrB [natB 10], strB kid, strB pb, strB []])]
/-! ### Nonces: i bytes of the id and j bytes of the number are in -/
def nF (c id : List UInt8) (piv : Int) (i j q : Nat) : UInt8 :=
 ((c.getD q 0 ^^^ (if q = 0 then u8 (id.length : Int) else 0)) ^^^ (if 8 - id.length ≤ q ∧ q < 8 - id.length + i then id.getD (q - (8 - id.length)) 0 else 0)) ^^^ (if 13 - j ≤ q ∧ q < 13 then u8 (piv / 2 ^ (8 * (12 - q))) else 0)
theorem nF_id {c id : List UInt8} {piv : Int} {i : Nat} (hl : id.length ≤ 7) (hi : i < id.length) (q : Nat) :
  (if q = 8 - id.length + i then nF c id piv i 0 (8 - id.length + i) ^^^ id.getD i 0 else nF c id piv i 0 q) = nF c id piv (i + 1) 0 q := by
 have h13 : ∀ p : Nat, ¬(13 - 0 ≤ p ∧ p < 13) := fun p => by omega
 by_cases h : q = 8 - id.length + i
 ·subst h
  rw [if_pos rfl]
  unfold nF
  rw [if_neg (h13 _), if_neg (show ¬(8 - id.length ≤ 8 - id.length + i ∧ 8 - id.length + i < 8 - id.length + i) by omega), if_pos (show 8 - id.length ≤ 8 - id.length + i ∧ 8 - id.length + i < 8 - id.length + (i + 1) by omega),
   show 8 - id.length + i - (8 - id.length) = i by omega]
  simp
 rw [if_neg h]
 unfold nF
 rw [if_neg (h13 _)]
 by_cases h2 : 8 - id.length ≤ q ∧ q < 8 - id.length + i
 ·rw [if_pos h2, if_pos (show 8 - id.length ≤ q ∧ q < 8 - id.length + (i + 1) by omega)]
 rw [if_neg h2, if_neg (show ¬(8 - id.length ≤ q ∧ q < 8 - id.length + (i + 1)) by omega)]
theorem nF_piv {c id : List UInt8} {piv : Int} {i j : Nat} (hj : j < 5) (q : Nat) :
  (if q = 12 - j then nF c id piv i j (12 - j) ^^^ u8 (piv / 2 ^ (8 * j)) else nF c id piv i j q) = nF c id piv i (j + 1) q := by
 by_cases h : q = 12 - j
 ·subst h
  rw [if_pos rfl]
  unfold nF
  rw [if_neg (show ¬(13 - j ≤ 12 - j ∧ 12 - j < 13) by omega), if_pos (show 13 - (j + 1) ≤ 12 - j ∧ 12 - j < 13 by omega), show 12 - (12 - j) = j by omega]
  simp
 rw [if_neg h]
 unfold nF
 by_cases h2 : 13 - j ≤ q ∧ q < 13
 ·rw [if_pos h2, if_pos (show 13 - (j + 1) ≤ q ∧ q < 13 by omega)]
 rw [if_neg h2, if_neg (show ¬(13 - (j + 1) ≤ q ∧ q < 13) by omega)]
/-- The nonce. -/
def nonceB (c id : List UInt8) (piv : Int) : List UInt8 := fnB 13 (nF c id piv id.length 5)
def nonceR (c id : List UInt8) (piv : Int) : List UInt8 × Int :=
 if c.length ≠ 13 ∨ 7 < id.length then ([], 1) else if piv < 0 ∨ 1099511627775 < piv then ([], 8) else (nonceB c id piv, 0)
end Go.Proofs.YtojomcdjcpmnkaaGreat.By

namespace Go.Proofs.YtojomcdjcpmnkaaGreat.By
open Go.RowKit L A Dk
set_option linter.unusedVariables false
set_option maxRecDepth 20000
set_option linter.unusedSimpArgs false
attribute [local irreducible] AW AQ AO

/-- Something, and a deck of which more or fewer numbers are taken. -/
def Gen (b : Nat) (l : List Int) (Φ : AV → Prop) : AV → List HE → Prop := fun r H' => Φ r ∧ ∃ k, k ≤ l.length ∧ H' = [deck b l k]
def IsNum (n : Int) (r : AV) : Prop := ∃ z : Int, 0 ≤ z ∧ z < n ∧ r = .val (.int .i64 z)
def IsBytes (n : Nat) (r : AV) : Prop := ∃ x : List UInt8, x.length ≤ n ∧ r = roB x
theorem next_any (b : Nat) (l : List Int) (k : Nat) (n : Int) (hl : l.length ≤ maxLen) (hk : k ≤ l.length) (hn1 : 0 < n) (hn2 : n ≤ 4611686018427387904) :
  Sp Tryz.prog 33 [ptr b, .val (.int .i64 n)] [deck b l k] (Gen b l (IsNum n)) :=
 (next_fn b l k n hl hk hn1 hn2).mono fun r H' ⟨h1, h2⟩ => ⟨⟨_, (nxt_in l k hn1).1, (nxt_in l k hn1).2, h1⟩, _, adv_le' hk, h2⟩

set_option maxHeartbeats 1000000 in
theorem bytes_any (b : Nat) (l : List Int) (k : Nat) (n : Nat) (hl : l.length ≤ maxLen) (hk : k ≤ l.length) (hn : n ≤ 1000000) :
  Sp Tryz.prog 24 [ptr b, .val (.int .i64 (n : Int))] [deck b l k] (Gen b l (IsBytes n)) := by
 refine yv Tryz.func24 _ Tryz.ntmps24 (fun w0 R0 => ?_)
 refine zx (zm ?_)
 refine zc (zD (zl (zx (zm ?_))))
 refine zc (zD (zl (zx (zx (zm ?_)))))
 refine za ?_
 refine za ?_
 refine zr ?_
 refine AO.callMG 0 rfl rfl Tryz.func33 rfl rfl rfl rfl rfl rfl (next_any _ l _ _ hl (by assumption) (by omega) (by omega)) ?_
 rintro _ _ ⟨⟨z, hz0, hz1, rfl⟩, kd, hkd, rfl⟩
 dsimp only [List.cons_append, List.nil_append, List.eraseIdx]
 refine zc (zD (zl (yS ?_)))
 obtain ⟨c, rfl⟩ : ∃ c : Nat, z = (c : Int) := ⟨z.toNat, by omega⟩
 refine AW.g ?_
 refine G.nilRow 5 1 ?_
 refine AW.u ?_
 refine AW.loopK [(0, _)] (fun nn E H => ∃ (c' : Nat) (out : List UInt8) (V : Value) (kk : Nat), (out.length + c' ≤ n) ∧ (V.oneCell' = true) ∧ (kk ≤ l.length) ∧ c' = nn ∧ E = [(5, .val V), (6, .val (.int .i64 (c' : Int)))] ∧ H = [.row V 5 1 out.length (bytesA out), deck b l kk]) _ (⟨c, [], .slice none 0 0, kd, by simp <;> omega, rfl, hkd, rfl, rfl, rfl⟩) (by repeat (first | exact envNil | refine envCons rfl ?_)) (by repeat (first | exact envNil | refine envCons rfl ?_)) (by repeat (first | exact subPnil | refine subPcons 0 rfl ?_)) ?_
 rintro nn E H ⟨c', out, V, kk, h1, hV, h3, rfl, rfl, rfl⟩
 dsimp only [List.cons_append, List.nil_append]
 refine zx (zx (zm ?_))
 refine za ?_
 refine y7 (zD (zl ?_))
 refine yn (fun h => ?_) (fun h => ?_) <;> (try simp only [wN] at h)
 ·skip
  obtain ⟨j, rfl⟩ : ∃ j, c' = j + 1 := ⟨c' - 1, by omega⟩
  refine yN (zl (zx (yS (zm ?_))))
  refine za ?_
  refine za ?_
  refine AO.callMG 1 rfl rfl Tryz.func33 rfl rfl rfl rfl rfl rfl (next_any _ l _ _ hl (by assumption) (by omega) (by omega)) ?_
  rintro _ _ ⟨⟨z, hz0, hz1, rfl⟩, kd, hkd, rfl⟩
  dsimp only [List.cons_append, List.nil_append, List.eraseIdx]
  refine yA ?_
  refine zK ?_
  intro B
  refine AO.g ?_
  refine wB 0 19 rfl rfl ⟨Nat.le_refl _, by unfold maxLen; omega⟩ ?_
  refine xF 19 ?_
  refine AO.u ?_
  dsimp only [List.eraseIdx]
  refine zy 1 rfl rfl rfl rfl (by rfl) (by rfl) rfl rfl rfl (by exact SrcA.ro TyD.ax (by rfl) (Nat.le_of_ble_eq_true rfl)) (by rfl) (by (unfold maxLen; omega)) ?_
  intro V hV
  refine zc (zD (y5 (zl (zm ?_))))
  refine za ?_
  refine yl ?_
  refine zc (zD ?_)
  rw [show ((j + 1 : Nat) : Int) - 1 = (j : Int) by omega]
  refine AQ.loopKN _ _ _ (by omega) (⟨j, out ++ [u8 z], V, kd, by simp; omega, hV, hkd, rfl, rfl, by rw [bytesA_app, List.length_append] <;> rfl⟩) (by repeat (first | exact envNil | refine envCons rfl ?_)) (by repeat (first | exact envNil | refine envCons rfl ?_)) (by repeat (first | exact subPnil | refine subPcons 0 rfl ?_ | refine subPcons 1 rfl ?_))
 refine xD ?_
 refine xr ?_
 refine xA ?_
 refine yZ (zl (zx (zm ?_)))
 refine za ?_
 refine zc (zD (zl (y1 ?_)))
 refine AQ.g ?_
 refine yU 0 [4] ?_
 refine AQ.u ?_
 dsimp only [List.map, List.eraseIdx, List.cons_append, List.nil_append]
 refine xK rfl rfl ⟨_, by repeat (first | exact List.Sublist.slnil | refine List.Sublist.cons_cons _ ?_), List.Perm.refl _⟩ (⟨⟨out, by omega, roB_of rfl rfl⟩, _, h3, rfl⟩)

end Go.Proofs.YtojomcdjcpmnkaaGreat.By

namespace Go.Proofs.YtojomcdjcpmnkaaGreat.By
open Go.RowKit L A
set_option linter.unusedVariables false
set_option maxRecDepth 20000
set_option linter.unusedSimpArgs false
attribute [local irreducible] AW AQ AO

def cmpB : List UInt8 → List UInt8 → Int
 | x :: a, y :: b => if x = y then cmpB a b else if x.toNat < y.toNat then -1 else 1
 | [], [] => 0
 | [], _ => -1
 | _, [] => 1
theorem cmpB_zero : ∀ {a b : List UInt8}, cmpB a b = 0 ↔ a = b
 | [], [] => by simp [cmpB]
 | [], _ :: _ => by simp [cmpB]
 | _ :: _, [] => by simp [cmpB]
 | x :: a, y :: b => by
  unfold cmpB
  split
  ·rename_i h
   rw [cmpB_zero, h]; simp
  rename_i h
  simp only [List.cons.injEq, h, false_and, iff_false]
  split <;> omega
theorem cmpB_step {a b : List UInt8} {k : Nat} (h1 : k < a.length) (h2 : k < b.length) :
  cmpB (a.drop k) (b.drop k) = if bt a k = bt b k then cmpB (a.drop (k + 1)) (b.drop (k + 1)) else if (bt a k).toNat < (bt b k).toNat then -1 else 1 := by
 rw [drop_bt h1, drop_bt h2, cmpB]
theorem cmpB_end {a b : List UInt8} {k : Nat} (h1 : k ≤ a.length) (h2 : k ≤ b.length) (h : k < a.length → b.length ≤ k) : cmpB (a.drop k) (b.drop k) = if a.length < b.length then -1 else if b.length < a.length then 1 else 0 := by
 rcases Nat.lt_or_eq_of_le h1 with h3 | h3
 ·have h4 : b.length = k := by have := h h3; omega
  have e : b.drop k = [] := List.drop_of_length_le (by omega)
  rw [drop_bt h3, e, if_neg (by omega), if_pos (by omega)]
  simp [cmpB]
 have e : a.drop k = [] := List.drop_of_length_le (by omega)
 rw [e]
 rcases Nat.lt_or_eq_of_le h2 with h5 | h5
 ·rw [drop_bt h5, if_pos (by omega)]; simp [cmpB]
 have e : b.drop k = [] := List.drop_of_length_le (by omega)
 rw [e, if_neg (by omega), if_neg (by omega)]; simp [cmpB]

set_option maxHeartbeats 1000000 in
theorem compare_fn (a b : List UInt8) : Sp Tryz.prog 79 [roB a, roB b] [] (Is (.val (.int .i64 (cmpB a b)))) := by
 refine yv Tryz.func79 _ Tryz.ntmps79 (fun w0 R0 => ?_)
 refine AW.g ?_
 refine G.lenRo (t := 0) rfl (fun hm1 => ?_)
 refine AW.u ?_
 refine AW.g ?_
 refine G.lenRo (t := 1) rfl (fun hm2 => ?_)
 refine AW.u ?_
 unfold maxLen at hm1 hm2
 refine zx (zm ?_)
 refine zc (zD (zl (zx (zx (zm ?_)))))
 refine zc (zD (zl (yS ?_)))
 refine AW.loopK [(0, _), (1, _)] (fun nn E H => ∃ (k : Nat), (k ≤ a.length) ∧ (k ≤ b.length) ∧ (cmpB a b = cmpB (a.drop k) (b.drop k)) ∧ nn = a.length - k ∧ E = [(5, .val (.int .i64 (k : Int)))] ∧ H = []) _ (⟨0, by omega, by omega, rfl, rfl, rfl, rfl⟩) (by repeat (first | exact envNil | refine envCons rfl ?_)) (by repeat (first | exact envNil | refine envCons rfl ?_)) (by repeat (exact subPnil)) ?_
 rintro nn E H ⟨k, h1, h2, hc, rfl, rfl, rfl⟩
 dsimp only [List.cons_append, List.nil_append]
 refine zx (zx (zm ?_))
 refine za ?_
 refine za ?_
 refine zZ ?_
 refine zH ?_
 refine za ?_
 refine yu ?_
 refine yu ?_
 refine AO.opG rfl rfl rfl (fun hp => yL 12 rfl (by exact hp)) ?_
 refine AO.opG rfl rfl rfl (fun hp => wL 11 rfl (by exact hp) (wL 13 rfl (by exact hp) yc)) ?_
 refine zN (zD (zl ?_))
 refine yn (fun h => ?_) (fun h => ?_) <;> (try simp only [wN] at h)
 ·skip
  have h3 : k < a.length := by omega
  have h4 : k < b.length := by omega
  rw [cmpB_step h3 h4] at hc
  refine yN (zl (zx (yS (zx ?_))))
  refine yj 9 ?_
  simp only [List.take_succ_cons, List.take_zero, List.drop_succ_cons, List.drop_zero]
  refine zv ?_
  refine zv ?_
  refine xx ?_
  refine wJ (O.loadR rfl rfl (by exact bt_at (by assumption) (by omega))) ?_
  refine zv ?_
  refine zv ?_
  refine xx ?_
  refine wJ (O.loadR rfl rfl (by exact bt_at (by assumption) (by omega))) ?_
  refine wJ y6 ?_
  refine wg ?_
  simp only [chosen, List.nil_append, List.cons_append, List.append_nil]
  refine zD (zl ?_)
  refine yn (fun h5 => ?_) (fun h5 => ?_) <;> (try simp only [wN] at h5)
  ·skip
   rw [if_neg (fun e => h5 (by rw [e]))] at hc
   refine zx (zx ?_)
   refine yj 9 ?_
   simp only [List.take_succ_cons, List.take_zero, List.drop_succ_cons, List.drop_zero]
   refine zv ?_
   refine zv ?_
   refine xx ?_
   refine wJ (O.loadR rfl rfl (by exact bt_at (by assumption) (by omega))) ?_
   refine zv ?_
   refine zv ?_
   refine xx ?_
   refine wJ (O.loadR rfl rfl (by exact bt_at (by assumption) (by omega))) ?_
   refine wJ yc ?_
   refine wg ?_
   simp only [chosen, List.nil_append, List.cons_append, List.append_nil]
   refine zD (zl ?_)
   refine yn (fun h6 => ?_) (fun h6 => ?_) <;> (try simp only [wN] at h6)
   ·skip
    rw [if_pos (by omega)] at hc
    refine zx (zm ?_)
    refine zc (zD (zl (y1 (xi ?_))))
    refine wb (xi ?_)
    refine AQ.loopR ?_
    refine wb (xi ?_)
    refine xK rfl rfl ⟨_, List.nil_sublist _, .nil⟩ (⟨congrArg (fun z => AV.val (.int .i64 z)) hc.symm, rfl⟩)
   rw [if_neg (by omega)] at hc
   refine yN (zl (zx (zm ?_)))
   refine zc (zD (zl (y1 ?_)))
   refine wb (xi ?_)
   refine AQ.loopR ?_
   refine wb (xi ?_)
   refine xK rfl rfl ⟨_, List.nil_sublist _, .nil⟩ (⟨congrArg (fun z => AV.val (.int .i64 z)) hc.symm, rfl⟩)
  rw [if_pos (u8_eq.1 h5)] at hc
  refine yN (y5 (zl (zm ?_)))
  refine za ?_
  refine zr ?_
  refine zc (zD ?_)
  refine AQ.loopKN _ _ _ (by omega) (⟨k + 1, by omega, by omega, hc, rfl, rfl, rfl⟩) (by repeat (first | exact envNil | refine envCons rfl ?_)) (by repeat (first | exact envNil | refine envCons rfl ?_)) (by repeat (exact subPnil))
 rw [cmpB_end h1 h2 (fun _ => by omega)] at hc
 refine xD ?_
 refine xr ?_
 refine xA ?_
 refine yZ (zl (zx (yS (zx (zm ?_)))))
 refine za ?_
 refine zZ ?_
 refine za ?_
 refine zZ ?_
 refine zH ?_
 refine zc (zD (zl ?_))
 refine yn (fun h5 => ?_) (fun h5 => ?_) <;> (try simp only [wN] at h5)
 ·skip
  rw [if_pos (by omega)] at hc
  refine zx (zm ?_)
  refine zc (zD (zl (y1 ?_)))
  refine wb (xi ?_)
  refine xK rfl rfl ⟨_, List.nil_sublist _, .nil⟩ (⟨congrArg (fun z => AV.val (.int .i64 z)) hc.symm, rfl⟩)
 rw [if_neg (by omega)] at hc
 refine zx (zm ?_)
 refine za ?_
 refine zZ ?_
 refine za ?_
 refine zZ ?_
 refine y7 ?_
 refine zc (zD (zl ?_))
 refine yn (fun h6 => ?_) (fun h6 => ?_) <;> (try simp only [wN] at h6)
 ·skip
  rw [if_pos (by omega)] at hc
  refine zx (zm ?_)
  refine zc (zD (zl (y1 ?_)))
  refine wb (xi ?_)
  refine xK rfl rfl ⟨_, List.nil_sublist _, .nil⟩ (⟨congrArg (fun z => AV.val (.int .i64 z)) hc.symm, rfl⟩)
 rw [if_neg (by omega)] at hc
 refine yN (y5 (zl (zx (zm ?_))))
 refine zc (zD (zl (y1 ?_)))
 refine xK rfl rfl ⟨_, List.nil_sublist _, .nil⟩ (⟨congrArg (fun z => AV.val (.int .i64 z)) hc.symm, rfl⟩)

theorem equal26_fn (a b : List UInt8) : Sp Tryz.prog 31 [roB a, roB b] [] (Is (.val (.bool (a == b)))) := by
 refine yv Tryz.func31 _ Tryz.ntmps31 (fun w0 R0 => ?_)
 refine zx (zm ?_)
 refine zc (zD (zl (zx (zm ?_))))
 refine za ?_
 refine za ?_
 refine wI (xl rfl Tryz.func79 rfl rfl rfl (compare_fn _ _)) ?_
 refine yd ?_
 refine za ?_
 refine yu ?_
 refine AO.opG rfl rfl rfl (fun hp => yL 10 rfl (by exact hp)) ?_
 refine yu ?_
 refine AO.opG rfl rfl rfl (fun hp => yL 12 rfl (by exact hp)) ?_
 refine AO.opG rfl rfl rfl (fun hp => wL 11 rfl (by exact hp) (y9 13 rfl (by exact hp))) ?_
 refine zN ?_
 refine zc (zD (zl (y1 ?_)))
 have e : ((cmpB a b == 0) && ((a.length : Int) == (b.length : Int))) = (a == b) := by
  rw [Bool.eq_iff_iff]
  simp only [Bool.and_eq_true, beq_iff_eq, cmpB_zero]
  constructor
  ·exact fun h => h.1
  rintro rfl; exact ⟨rfl, rfl⟩
 refine xK rfl rfl ⟨_, List.nil_sublist _, .nil⟩ (⟨congrArg (fun z => AV.val (.bool z)) e, rfl⟩)

theorem copy26_fn (l : List UInt8) (hl : l.length ≤ 140737488355328) : Sp Tryz.prog 69 [roB l] [] (Is (roB l)) := by
 refine yv Tryz.func69 _ Tryz.ntmps69 (fun w0 R0 => ?_)
 refine zx (zm ?_)
 refine zc (zD (zl (zx (zm ?_))))
 refine za ?_
 refine ww (O.appendNil rfl (by rfl) (by rfl) rfl rfl (by exact SrcA.ro TyD.ax (by (simp; done)) (Nat.le_of_ble_eq_true rfl)) (by (simp [AV.cells, AV.one, *]; done)) (by (unfold maxLen; omega)) (by omega)) ?_
 intro V hV
 refine zc (zD (zl (y1 ?_)))
 refine AQ.g ?_
 refine yU 0 [2] ?_
 refine AQ.u ?_
 dsimp only [List.map, List.eraseIdx, List.cons_append, List.nil_append]
 refine xK rfl rfl ⟨_, List.nil_sublist _, .nil⟩ (⟨roB_of (by simp) (by simp), rfl⟩)

/-- A number's bytes, the first not 0 unless it is the only one. -/
def beGo (n : Nat) (out : List UInt8) : List UInt8 := if h : n = 0 then out else beGo (n / 256) (u8 (n : Int) :: out)
termination_by n
decreasing_by omega
def pivB (n : Int) : List UInt8 := if n < 0 ∨ 1099511627775 < n then [] else beGo (n.toNat / 256) [u8 n]
theorem beGo_zero (out : List UInt8) : beGo 0 out = out := by unfold beGo; simp
theorem beGo_pos {n : Nat} (h : n ≠ 0) (out : List UInt8) : beGo n out = beGo (n / 256) (u8 (n : Int) :: out) := by rw [beGo, dif_neg h]
theorem beGo_len : ∀ (k n : Nat) (out : List UInt8), n < 256 ^ k → (beGo n out).length ≤ out.length + k
 | 0, n, out, h => by
  obtain rfl : n = 0 := by simpa using h
  rw [beGo_zero]; simp
 | k + 1, n, out, h => by
  by_cases h0 : n = 0
  ·subst h0; rw [beGo_zero]; simp
  rw [beGo_pos h0]
  have := beGo_len k (n / 256) (u8 (n : Int) :: out) (by rw [Nat.pow_succ] at h; omega)
  simp at this ⊢; omega
theorem pivB_len (n : Int) : (pivB n).length ≤ 5 := by
 unfold pivB
 split
 ·simp
 have := beGo_len 4 (n.toNat / 256) [u8 n] (by omega)
 simpa using this

/-- The same from the front: what is there behind the bytes of number 4, 3 .. -/
def rStep (n : Int) (s : Nat) (out : List UInt8) : List UInt8 := if 0 < out.length ∨ (u8 (n / 256 ^ s) ≠ 0) ∨ s = 0 then out ++ [u8 (n / 256 ^ s)] else out
def rGo (n : Int) : Nat → List UInt8
 | 0 => []
 | k + 1 => rStep n (4 - k) (rGo n k)
theorem u8_zero_iff (x : Int) : u8 x = 0 ↔ x % 256 = 0 := by
 constructor
 ·intro h
  have := u8_toNat x
  rw [h] at this
  simpa using this.symm
 intro h; unfold u8; rw [h]; rfl
theorem rGo_piv {n : Int} (h0 : 0 ≤ n) (h1 : n ≤ 1099511627775) : rGo n 5 = pivB n := by
 obtain ⟨m, rfl⟩ : ∃ m : Nat, n = (m : Int) := ⟨n.toNat, by omega⟩
 have nz : ∀ x : Int, x % 256 ≠ 0 → ¬ u8 x = 0 := fun x h e => h ((u8_zero_iff x).1 e)
 have yz : ∀ x : Int, x % 256 = 0 → u8 x = 0 := fun x h => (u8_zero_iff x).2 h
 have q : (m : Int) / 256 ^ 0 = (m : Int) := by simp
 have s1 : ((m / 256 : Nat) : Int) = (m : Int) / 256 := by omega
 have s2 : ((m / 65536 : Nat) : Int) = (m : Int) / 65536 := by omega
 have s3 : ((m / 16777216 : Nat) : Int) = (m : Int) / 16777216 := by omega
 have s4 : ((m / 4294967296 : Nat) : Int) = (m : Int) / 4294967296 := by omega
 unfold pivB
 rw [if_neg (by omega)]
 simp only [rGo, rStep, Nat.reduceSub, Int.reducePow, Int.toNat_natCast, q]
 by_cases a4 : m / 4294967296 = 0
 ·have e4 := yz ((m : Int) / 4294967296) (by omega)
  by_cases a3 : m / 16777216 = 0
  ·have e3 := yz ((m : Int) / 16777216) (by omega)
   by_cases a2 : m / 65536 = 0
   ·have e2 := yz ((m : Int) / 65536) (by omega)
    by_cases a1 : m / 256 = 0
    ·have e1 := yz ((m : Int) / 256) (by omega)
     rw [a1, beGo_zero]
     simp [e4, e3, e2, e1]
    have e1 := nz ((m : Int) / 256) (by omega)
    rw [beGo_pos a1, show m / 256 / 256 = 0 by omega, beGo_zero, s1]
    simp [e4, e3, e2, e1]
   have e2 := nz ((m : Int) / 65536) (by omega)
   rw [beGo_pos (by omega), beGo_pos (by omega), show m / 256 / 256 / 256 = 0 by omega, beGo_zero, show m / 256 / 256 = m / 65536 by omega, s1, s2]
   simp [e4, e3, e2]
  have e3 := nz ((m : Int) / 16777216) (by omega)
  rw [beGo_pos (by omega), beGo_pos (by omega), beGo_pos (by omega), show m / 256 / 256 / 256 / 256 = 0 by omega, beGo_zero, show m / 256 / 256 / 256 = m / 16777216 by omega, show m / 256 / 256 = m / 65536 by omega, s1, s2, s3]
  simp [e4, e3]
 have e4 := nz ((m : Int) / 4294967296) (by omega)
 rw [beGo_pos (by omega), beGo_pos (by omega), beGo_pos (by omega), beGo_pos (by omega), show m / 256 / 256 / 256 / 256 / 256 = 0 by omega, beGo_zero, show m / 256 / 256 / 256 / 256 = m / 4294967296 by omega, show m / 256 / 256 / 256 = m / 16777216 by omega, show m / 256 / 256 = m / 65536 by omega, s1, s2, s3, s4]
 simp [e4]
theorem rGo_len (n : Int) : ∀ k, (rGo n k).length ≤ k
 | 0 => Nat.le_refl _
 | k + 1 => by
  have := rGo_len n k
  unfold rGo rStep
  split
  ·simp; omega
  omega
end Go.Proofs.YtojomcdjcpmnkaaGreat.By

namespace Go.Proofs.YtojomcdjcpmnkaaGreat.By
open Go.RowKit L A Dk
set_option linter.unusedVariables false
set_option maxRecDepth 20000
set_option linter.unusedSimpArgs false
attribute [local irreducible] AW AQ AO

set_option maxHeartbeats 1000000 in
theorem bytes_fn (n : Int) : Sp Tryz.prog 112 [.val (.int .i64 n)] [] (Is (roB (pivB n))) := by
 refine yv Tryz.func112 _ Tryz.ntmps112 (fun w0 R0 => ?_)
 refine zx (zm ?_)
 refine zc (zD (zl (zx (zx (zm ?_)))))
 refine za ?_
 refine zH ?_
 refine za ?_
 refine yu ?_
 refine AO.opG rfl rfl rfl (fun hp => yM 7 rfl (by exact hp)) ?_
 refine zB (zD (zl ?_))
 refine yn (fun h => ?_) (fun h => ?_) <;> (try simp only [wN] at h)
 ·skip
  have e : pivB n = [] := by unfold pivB; rw [if_pos (by omega)]
  rw [e]
  refine zx (zm ?_)
  refine zc (zD (zl (y1 (xi ?_))))
  refine AQ.g ?_
  refine G.nilRo 2 rfl ?_
  refine AQ.u ?_
  try dsimp only [List.map, List.eraseIdx, List.cons_append, List.nil_append]
  refine xK rfl rfl ⟨_, List.nil_sublist _, .nil⟩ (⟨rfl, rfl⟩)
 obtain ⟨m, rfl⟩ : ∃ m : Nat, n = (m : Int) := ⟨n.toNat, by omega⟩
 have e : pivB (m : Int) = beGo (m / 256) [u8 (m : Int)] := by unfold pivB; rw [if_neg (by omega)]; simp
 rw [e]
 refine yN (zl (zx (zm ?_)))
 refine za ?_
 refine yA ?_
 refine zK ?_
 intro B
 refine zc (zD (zl (zx (zx (zm ?_)))))
 refine za ?_
 refine xZ ?_
 refine zc (zD (zl (yS ?_)))
 rw [show (m : Int) / 256 = ((m / 256 : Nat) : Int) by omega]
 refine AW.g ?_
 refine G.closeRow (n := 1) (cap := 1) 0 rfl rfl rfl (Nat.le_refl _) (by (unfold maxLen; omega)) ?_
 refine AW.u ?_
 dsimp only [List.set]
 refine AW.loopK [] (fun nn E H => ∃ (j : Nat) (q : Nat) (out : List UInt8) (V : Value), (j < 256 ^ q) ∧ (q ≤ 4) ∧ (out.length + q ≤ 5) ∧ (V.oneCell' = true) ∧ (beGo (m / 256) [u8 (m : Int)] = beGo j out) ∧ j = nn ∧ E = [(0, .val (.int .i64 (j : Int))), (3, .val V)] ∧ H = [.row V 5 1 out.length (bytesA out)]) _ (⟨m / 256, 4, [u8 (m : Int)], _, by omega, by omega, by simp, rfl, rfl, rfl, rfl, rfl⟩) (by repeat (exact envNil)) (by repeat (first | exact envNil | refine envCons rfl ?_)) (by repeat (first | exact subPnil | refine subPcons 0 rfl ?_)) ?_
 rintro nn E H ⟨j, q, out, V, h1, h2, h4, hV, hb, rfl, rfl, rfl⟩
 dsimp only [List.cons_append, List.nil_append]
 refine zx (zx (zm ?_))
 refine za ?_
 refine y7 (zD (zl ?_))
 refine yn (fun h => ?_) (fun h => ?_) <;> (try simp only [wN] at h)
 ·skip
  obtain ⟨q, rfl⟩ : ∃ p, q = p + 1 := ⟨q - 1, by cases q with | zero => simp at h1; omega | succ q => rfl⟩
  have hj : j ≠ 0 := by omega
  rw [beGo_pos hj] at hb
  refine yN (zl (zx (yS (zm ?_))))
  refine za ?_
  refine yA ?_
  refine zK ?_
  intro B
  refine AO.g ?_
  refine G.closeRow (b := B) (n := 1) (cap := 1) 0 rfl rfl rfl (Nat.le_refl _) (by (unfold maxLen; omega)) ?_
  refine AO.u ?_
  dsimp only [List.set]
  refine za ?_
  refine zy 0 rfl rfl rfl rfl (by rfl) (by rfl) rfl rfl rfl (by exact SrcA.row TyD.ax (by repeat (first | exact List.Mem.head _ | refine List.Mem.tail _ ?_)) (by (simp; done))) (by (simp [AV.cells, AV.one, *]; done)) (by (unfold maxLen; omega)) ?_
  intro V hV
  refine zc (zD (y5 (zl (zm ?_))))
  refine za ?_
  refine xZ ?_
  refine zc (zD ?_)
  rw [show (j : Int) / 256 = ((j / 256 : Nat) : Int) by omega]
  refine AQ.loopKN _ _ _ (Nat.div_lt_self (by omega) (by omega)) (⟨j / 256, q, u8 (j : Int) :: out, V, by rw [Nat.pow_succ] at h1; omega, by omega, by simp; omega, hV, hb, rfl, rfl, by simp only [List.length_cons, Nat.add_comm out.length 1]; rfl⟩) (by repeat (exact envNil)) (by repeat (first | exact envNil | refine envCons rfl ?_)) (by repeat (first | exact subPnil | refine subPcons 0 rfl ?_))
 obtain rfl : j = 0 := by omega
 rw [hb, beGo_zero]
 refine xD ?_
 refine xr ?_
 refine xA ?_
 refine yZ (zl (zx (zm ?_)))
 refine za ?_
 refine zc (zD (zl (y1 ?_)))
 refine AQ.g ?_
 refine z6 0 [2] ?_
 refine AQ.u ?_
 try dsimp only [List.map, List.eraseIdx, List.cons_append, List.nil_append]
 refine xK rfl rfl ⟨_, List.nil_sublist _, .nil⟩ (⟨rfl, rfl⟩)

set_option maxHeartbeats 1000000 in
theorem rbytes_fn (n : Int) : Sp Tryz.prog 74 [.val (.int .i64 n)] [] (Is (roB (pivB n))) := by
 refine yv Tryz.func74 _ Tryz.ntmps74 (fun w0 R0 => ?_)
 refine zx (zm ?_)
 refine zc (zD (zl (zx (zx (zm ?_)))))
 refine za ?_
 refine zH ?_
 refine za ?_
 refine yu ?_
 refine AO.opG rfl rfl rfl (fun hp => yM 9 rfl (by exact hp)) ?_
 refine zB (zD (zl ?_))
 refine yn (fun h => ?_) (fun h => ?_) <;> (try simp only [wN] at h)
 ·skip
  have e : pivB n = [] := by unfold pivB; rw [if_pos (by omega)]
  rw [e]
  refine zx (zm ?_)
  refine zc (zD (zl (y1 (xi ?_))))
  refine AQ.g ?_
  refine G.nilRo 2 rfl ?_
  refine AQ.u ?_
  try dsimp only [List.map, List.eraseIdx, List.cons_append, List.nil_append]
  refine xK rfl rfl ⟨_, List.nil_sublist _, .nil⟩ (⟨rfl, rfl⟩)
 obtain ⟨m, rfl⟩ : ∃ m : Nat, n = (m : Int) := ⟨n.toNat, by omega⟩
 refine yN (zl (zx (zm ?_)))
 refine zc (zD (zl (zx (zx (zm ?_)))))
 refine zc (zD (zl (yS ?_)))
 refine AW.g ?_
 refine G.nilRow 5 1 ?_
 refine AW.u ?_
 refine zg [(0, _)] (fun nn E H => ∃ (k : Nat) (V : Value), (k ≤ 5) ∧ (V.oneCell' = true) ∧ nn = 5 - k ∧ E = [(3, .val V), (4, .val (.int .i64 (32 - 8 * (k : Int))))] ∧ H = [.row V 5 1 (rGo (m : Int) k).length (bytesA (rGo (m : Int) k))]) _ (⟨0, .slice none 0 0, by omega, rfl, rfl, rfl, rfl⟩) ?_
 rintro nn E H ⟨k, V, h1, hV, rfl, rfl, rfl⟩
 dsimp only [List.cons_append, List.nil_append]
 have hlen := rGo_len (m : Int) k
 refine zx (zx (zm ?_))
 refine za ?_
 refine xR (zD (zl ?_))
 refine yn (fun h => ?_) (fun h => ?_) <;> (try simp only [wN] at h)
 ·skip
  have hk : k ≤ 4 := by omega
  refine yN (zl (zx (yS (zx (zm ?_)))))
  refine za ?_
  refine za ?_
  refine wI (O.shr rfl rfl rfl (by omega) rfl) ?_
  refine yA ?_
  refine zc (zD (zl (zx (zm ?_))))
  refine za ?_
  refine xN ?_
  refine y7 ?_
  refine za ?_
  refine yu ?_
  refine AO.opG rfl rfl rfl (fun hp => xO 24 rfl (by exact hp)) ?_
  refine zB ?_
  refine za ?_
  refine yu ?_
  refine AO.opG rfl rfl rfl (fun hp => y9 28 rfl (by exact hp)) ?_
  refine zB (zD (zl ?_))
  have e1 : Int.fdiv (m : Int) (2 ^ min (Int.toNat (32 - 8 * (k : Int))) IntKind.i64.bits) = (m : Int) / 256 ^ (4 - k) := by
   rcases (show k = 0 ∨ k = 1 ∨ k = 2 ∨ k = 3 ∨ k = 4 by omega) with rfl | rfl | rfl | rfl | rfl <;> exact Int.fdiv_eq_ediv_of_nonneg _ (by decide)
  rw [e1]
  have e2 : ((u8 ((m : Int) / 256 ^ (4 - k))).toNat : Int) = 0 ↔ u8 ((m : Int) / 256 ^ (4 - k)) = 0 := by
   rw [show (0 : Int) = ((0 : UInt8).toNat : Int) from rfl, u8_eq]
  refine yn (fun h2 => ?_) (fun h2 => ?_) <;> (try simp only [wN] at h2)
  ·skip
   have e : rGo (m : Int) (k + 1) = rGo (m : Int) k ++ [u8 ((m : Int) / 256 ^ (4 - k))] := by
    rw [rGo, rStep, if_pos]
    rcases h2 with (h2 | h2) | h2
    ·exact .inl (by omega)
    ·exact .inr (.inl (fun e => h2 (e2.2 e)))
    exact .inr (.inr (by omega))
   refine zm ?_
   refine za ?_
   refine za ?_
   refine zK ?_
   intro B
   refine AO.g ?_
   refine wB 0 33 rfl rfl ⟨Nat.le_refl _, by unfold maxLen; omega⟩ ?_
   refine xF 33 ?_
   refine AO.u ?_
   dsimp only [List.eraseIdx]
   refine zy 0 rfl rfl rfl rfl (by rfl) (by rfl) rfl rfl rfl (by exact SrcA.ro TyD.ax (by rfl) (Nat.le_of_ble_eq_true rfl)) (by rfl) (by (unfold maxLen; omega)) ?_
   intro V hV
   refine zc (zD (y5 (zl (zm ?_))))
   refine za ?_
   refine yl ?_
   refine zc (zD ?_)
   refine AQ.loopKN _ _ _ (by omega) (⟨k + 1, V, by omega, hV, rfl, by rw [show 32 - 8 * ((k + 1 : Nat) : Int) = 32 - 8 * (k : Int) - 8 by omega], by rw [e, bytesA_app, List.length_append] <;> rfl⟩) (by repeat (first | exact envNil | refine envCons rfl ?_)) (by repeat (first | exact envNil | refine envCons rfl ?_)) (by repeat (first | exact subPnil | refine subPcons 0 rfl ?_))
  have e : rGo (m : Int) (k + 1) = rGo (m : Int) k := by
   obtain ⟨⟨h3, h4⟩, h5⟩ := h2
   rw [rGo, rStep, if_neg]
   rintro (h6 | h6 | h6)
   ·omega
   ·exact h6 (e2.1 (by simpa using h4))
   omega
  refine yN (y5 (zl (zm ?_)))
  refine za ?_
  refine yl ?_
  refine zc (zD ?_)
  refine zj _ _ _ (by omega) (⟨k + 1, V, by omega, hV, rfl, by rw [show 32 - 8 * ((k + 1 : Nat) : Int) = 32 - 8 * (k : Int) - 8 by omega], by rw [e]⟩)
 obtain rfl : k = 5 := by omega
 rw [rGo_piv (by omega) (by omega)]
 refine xD ?_
 refine xr ?_
 refine xA ?_
 refine yZ (zl (zx (zm ?_)))
 refine za ?_
 refine zc (zD (zl (y1 ?_)))
 refine AQ.g ?_
 refine z6 0 [2] ?_
 refine AQ.u ?_
 try dsimp only [List.map, List.eraseIdx, List.cons_append, List.nil_append]
 refine xK rfl rfl ⟨_, List.nil_sublist _, .nil⟩ (⟨rfl, rfl⟩)
end Go.Proofs.YtojomcdjcpmnkaaGreat.By

namespace Go.Proofs.YtojomcdjcpmnkaaGreat.By
open Go.RowKit L A
set_option linter.unusedVariables false
set_option maxRecDepth 20000
set_option linter.unusedSimpArgs false
attribute [local irreducible] AW AQ AO
abbrev leafC (k n : Int) (b : List UInt8) : List AV := [.val (.int .i64 k), .val (.int .u64 n), roB b, .ro false 0 []]
theorem cells_leaf (k n : Int) (b : List UInt8) : (It.mk k n b []).cells = leafC k n b := by rw [It.cells, itsA]; rfl
theorem cells_mk (k n : Int) (b : List UInt8) (l : List It) : (It.mk k n b l).cells = [.val (.int .i64 k), .val (.int .u64 n), roB b, .ro false l.length (itsA l)] := by rw [It.cells]
theorem itsA_snoc (l : List It) (x : It) : itsA (l ++ [x]) = itsA l ++ x.cells := by rw [itsA_eq, itsA_eq, flat_snoc]
abbrev CopySp (x : It) : Prop := Sp Tryz.prog 168 [.agg x.cells] [] (Is (.agg x.cells))
set_option maxHeartbeats 4000000 in
theorem copy_any {k n : Int} {b : List UInt8} {l : List It} (hb : b.length ≤ 100000) (hm : l.length ≤ 1000) (hS : ∀ q, q < l.length → CopySp (itat l q)) : CopySp (.mk k n b l) := by
 unfold CopySp
 rw [cells_mk]
 refine yv Tryz.func168 _ Tryz.ntmps168 (fun w0 R0 => ?_)
 refine zx (zm ?_)
 refine ya ?_
 intro B1
 refine wE ?_
 intro B2
 refine zD (zl (zx ?_))
 refine yj 9 ?_
 simp only [List.take_succ_cons, List.take_zero, List.drop_succ_cons, List.drop_zero]
 refine yw ?_
 refine zU ?_
 refine yw ?_
 refine zU ?_
 refine yw ?_
 refine zU ?_
 refine wJ (OpW.frzR (O.appendNil rfl (by rfl) (by rfl) rfl rfl (by exact SrcA.ro TyD.ax (by (simp; done)) (Nat.le_of_ble_eq_true rfl)) (by (simp [AV.cells, AV.one, *]; done)) (by (unfold maxLen; omega)) (by omega))) ?_
 refine x8 ?_
 refine FA.opN (xg rfl) rfl rfl rfl rfl ?_
 refine wg ?_
 simp only [chosen, List.nil_append, List.cons_append, List.append_nil]
 rintro _ _ ⟨B3, rfl, rfl⟩
 simp only [List.cons_append, List.nil_append]
 refine yo 0 rfl rfl rfl rfl rfl rfl (zD (zl (zx (zm ?_))))
 refine zc (zD (zl (zx (zx (zm ?_)))))
 refine zn ?_
 refine zp ?_
 refine zZ ?_
 refine za (zD (zl (yS ?_)))
 refine AW.g ?_
 refine G.nilRow 147 4 ?_
 refine AW.u ?_
 refine zg [(2, _), (3, _), (16, _), (17, _)] (fun nn E H => ∃ (q : Nat) (V : Value), (q ≤ l.length) ∧ (V.oneCell' = true) ∧ nn = l.length - q ∧ E = [(4, .val V), (18, .val (.int .i64 (q : Int)))] ∧ H = [.row V 147 4 q (itsA (l.take q)), .blk B3 147 4 [.val (.int .i64 k), .val (.int .u64 n), roB b, .val (.slice none 0 0)], .blk B2 147 4 [.val (.int .i64 0), .val (.int .u64 0), .val (.slice none 0 0), .val (.slice none 0 0)], .blk B1 147 4 [.val (.int .i64 k), .val (.int .u64 n), roB b, .ro false l.length (itsA l)]]) _ (⟨0, _, by omega, rfl, rfl, rfl, by rw [List.take_zero, itsA]⟩) ?_
 rintro nn E H ⟨q, V, hq, hV, rfl, rfl, rfl⟩
 dsimp only [List.cons_append, List.nil_append]
 have hil : (itsA (l.take q)).length = q * 4 := by rw [itsA_len, List.length_take]; omega
 refine zx (zm ?_)
 refine zH (zD (zl (zx ?_)))
 refine yn (fun hlt => ?_) (fun hlt => ?_) <;> (try simp only [wN] at hlt)
 ·skip
  have hql : q < l.length := by omega
  obtain ⟨kk, nn', bb, ll, hx⟩ : ∃ kk nn' bb ll, itat l q = .mk kk nn' bb ll := by cases h : itat l q; exact ⟨_, _, _, _, rfl⟩
  have hg : ((itsA l).drop (Int.toNat (q : Int) * 4)).take 4 = [.val (.int .i64 kk), .val (.int .u64 nn'), roB bb, .ro false ll.length (itsA ll)] := by
   rw [getIt hql (by omega), hx, It.cells]
  have hSk := hS q hql
  rw [hx] at hSk
  unfold CopySp at hSk
  rw [It.cells] at hSk
  have e1 := itsA_snoc (l.take q) (itat l q)
  rw [← take_snoc itN hql, hx, It.cells] at e1
  refine yN (zl (zx (yS (zx (zm ?_)))))
  refine yh ?_
  refine wI (O.loadRK rfl rfl (by exact hg) (by rfl)) ?_
  refine wE ?_
  intro B4
  refine yo 0 rfl rfl rfl rfl rfl rfl (zD (zl (zm ?_)))
  refine za ?_
  refine wI (O.loadK rfl rfl (by repeat (exact List.Mem.head _)) (by rfl) (by rfl)) ?_
  refine wI (xl rfl Tryz.func168 rfl rfl rfl hSk) ?_
  refine zK ?_
  intro B5
  refine AO.g ?_
  refine wB 0 25 rfl rfl ⟨Nat.le_refl _, by unfold maxLen; omega⟩ ?_
  refine xF 25 ?_
  refine AO.u ?_
  dsimp only [List.eraseIdx]
  refine zY 1 rfl rfl rfl rfl (by rfl) (by rfl) rfl rfl rfl (by exact SrcA.ro TyD.ax (by rfl) (Nat.le_of_ble_eq_true rfl)) (by rfl) (by (unfold maxLen; omega)) ?_
  intro V6 hV6
  refine zc (zD (y5 (zl (zm ?_))))
  refine zr ?_
  refine za (zD ?_)
  rw [show itsA (l.take q) ++ _ = _ from e1.symm]
  refine zF _ _ _ (by omega) (⟨q + 1, _, by omega, ‹_›, rfl, rfl, rfl⟩)
 obtain rfl : q = l.length := by omega
 rw [List.take_length]
 refine AW.g ?_
 refine z6 0 [4] ?_
 refine AW.u ?_
 try dsimp only [List.map, List.eraseIdx, List.cons_append, List.nil_append]
 refine xD ?_
 refine xr ?_
 refine xA ?_
 refine yZ (zl (zx (zm ?_)))
 refine za ?_
 refine zn ?_
 refine yo 0 rfl rfl rfl rfl rfl rfl (zD (zl (zx (zm ?_))))
 refine wI (O.loadK rfl rfl (by repeat (exact List.Mem.head _)) (by (dsimp only [List.set, List.append, List.cons_append, List.nil_append, roB_cells, roI_cells, splice, ofConst, AV.cells, List.map, List.map_cons, List.map_nil, List.take, List.drop, Nat.zero_add, Nat.add_zero, Nat.reduceAdd, Nat.reduceMul, Nat.zero_mul, Value.cells, List.toList_toArray, zerosA, List.replicate, List.flatten, List.append_nil]; done)) (by rfl)) ?_
 refine yo 1 rfl rfl rfl rfl rfl rfl (zD (zl (y1 ?_)))
 refine AQ.retCell rfl rfl (by repeat (first | exact List.Mem.head _ | refine List.Mem.tail _ ?_)) (by rfl) rfl ⟨_, List.nil_sublist _, .nil⟩ (⟨rfl, rfl⟩)
def smIt : Nat → It → Prop
 | 0, .mk _ _ b l => b.length ≤ 100000 ∧ l = []
 | d + 1, .mk _ _ b l => b.length ≤ 100000 ∧ l.length ≤ 1000 ∧ ∀ y ∈ l, smIt d y
theorem copyIt_fn : ∀ (d : Nat) (x : It), smIt d x → CopySp x
 | 0, .mk k n b l, h => by
  obtain ⟨h1, rfl⟩ := h
  exact copy_any h1 (by simp) (fun q hq => absurd hq (by simp))
 | d + 1, .mk k n b l, h => copy_any h.1 h.2.1 fun q hq => copyIt_fn d _ (h.2.2 _ (getD_mem itN hq))
theorem smIt_leaf {d : Nat} {k n : Int} {b : List UInt8} (h : b.length ≤ 100000) : smIt d (.mk k n b []) := by
 cases d with
 | zero => exact ⟨h, rfl⟩
 | succ d => exact ⟨h, by simp, fun y hy => by cases hy⟩
/-! ### The makers -/
theorem rlist_fn (d : Nat) (l : List It) (hm : l.length ≤ 1000) (hS : ∀ y ∈ l, smIt d y) : Sp Tryz.prog 123 [.ro false l.length (itsA l)] [] (Is (.agg (It.mk 4 0 [] l).cells)) := by
 have hcp := copyIt_fn (d + 1) (.mk 4 0 [] l) ⟨by simp, hm, hS⟩
 unfold CopySp at hcp
 rw [cells_mk] at hcp ⊢
 refine yv Tryz.func123 _ Tryz.ntmps123 (fun w0 R0 => ?_)
 refine zx (zm ?_)
 refine zd ?_
 intro B1
 refine zD (zl (zx (zm ?_)))
 refine za ?_
 refine z8 ?_
 refine wI (we rfl Tryz.func168 rfl rfl rfl hcp) ?_
 refine zb 0 rfl rfl rfl rfl rfl rfl (zD (zl (y1 ?_)))
 refine AQ.retCell rfl rfl (by repeat (exact List.Mem.head _)) (by rfl) rfl ⟨_, List.nil_sublist _, .nil⟩ (⟨rfl, rfl⟩)
theorem rint_fn (n : Int) (hn : 0 ≤ n ∧ n < 1000) : Sp Tryz.prog 124 [.val (.int .i64 n)] [] (Is (.agg (leafC 0 n []))) := by
 refine yv Tryz.func124 _ Tryz.ntmps124 (fun w0 R0 => ?_)
 refine zx (zm ?_)
 refine zd ?_
 intro B1
 refine zD (zl (zx (zx (zm ?_))))
 refine za ?_
 refine wI (O.lss rfl rfl rfl (by exact bFalse (by omega))) (zD (zl ?_))
 refine AW.condF rfl (yN (zl (zx (zm ?_))))
 refine za ?_
 refine xh ?_
 refine z8 ?_
 refine zb 0 rfl rfl rfl rfl rfl rfl (zD (zl (y1 ?_)))
 refine FnQ.coe (xz rfl rfl) xC (⟨rfl, rfl⟩)
theorem rbyt_fn (b : List UInt8) (hb : b.length ≤ 100000) : Sp Tryz.prog 125 [roB b] [] (Is (.agg (leafC 2 0 b))) := by
 refine yv Tryz.func125 _ Tryz.ntmps125 (fun w0 R0 => ?_)
 refine zx (zm ?_)
 refine zd ?_
 intro B1
 refine zD (zl (zx (zm ?_)))
 refine za ?_
 refine wI (OpW.frzR (O.appendNil rfl (by rfl) (by rfl) rfl rfl (by exact SrcA.ro TyD.ax (by (simp; done)) (Nat.le_of_ble_eq_true rfl)) (by (simp [AV.cells, AV.one, *]; done)) (by (unfold maxLen; omega)) (by omega))) ?_
 refine z8 ?_
 refine zb 0 rfl rfl rfl rfl rfl rfl (zD (zl (y1 ?_)))
 refine FnQ.coe (xz rfl rfl) xC (⟨rfl, rfl⟩)
theorem rtxtK_fn : Sp Tryz.prog 126 [.val (.string ⟨#[75, 101, 121]⟩)] [] (Is (.agg (leafC 3 0 keyT))) := by
 refine yv Tryz.func126 _ Tryz.ntmps126 (fun w0 R0 => ?_)
 refine zx (zm ?_)
 refine zd ?_
 intro B1
 refine zD (zl (zx (zm ?_)))
 refine za ?_
 refine wI (O.toBytes rfl rfl rfl (by (unfold maxLen; simp; done))) ?_
 refine z8 ?_
 refine zb 0 rfl rfl rfl rfl rfl rfl (zD (zl (y1 ?_)))
 refine FnQ.coe (xz rfl rfl) xC (⟨rfl, rfl⟩)
theorem rtxtI_fn : Sp Tryz.prog 126 [.val (.string ⟨#[73, 86]⟩)] [] (Is (.agg (leafC 3 0 ivT))) := by
 refine yv Tryz.func126 _ Tryz.ntmps126 (fun w0 R0 => ?_)
 refine zx (zm ?_)
 refine zd ?_
 intro B1
 refine zD (zl (zx (zm ?_)))
 refine za ?_
 refine wI (O.toBytes rfl rfl rfl (by (unfold maxLen; simp; done))) ?_
 refine z8 ?_
 refine zb 0 rfl rfl rfl rfl rfl rfl (zD (zl (y1 ?_)))
 refine FnQ.coe (xz rfl rfl) xC (⟨rfl, rfl⟩)
theorem rtxtE_fn : Sp Tryz.prog 126 [.val (.string ⟨#[69, 110, 99, 114, 121, 112, 116, 48]⟩)] [] (Is (.agg (leafC 3 0 encT))) := by
 refine yv Tryz.func126 _ Tryz.ntmps126 (fun w0 R0 => ?_)
 refine zx (zm ?_)
 refine zd ?_
 intro B1
 refine zD (zl (zx (zm ?_)))
 refine za ?_
 refine wI (O.toBytes rfl rfl rfl (by (unfold maxLen; simp; done))) ?_
 refine z8 ?_
 refine zb 0 rfl rfl rfl rfl rfl rfl (zD (zl (y1 ?_)))
 refine FnQ.coe (xz rfl rfl) xC (⟨rfl, rfl⟩)
/-! ### Infos -/
theorem head_lt {m n : Nat} (h : n < 24) : headB m n = [UInt8.ofNat (32 * m + n)] := if_pos h
theorem u8_nat' (n : Nat) : u8 (n : Int) = UInt8.ofNat n := by
 unfold u8
 exact UInt8.toNat_inj.1 (by simp only [UInt8.toNat_ofNat']; omega)
theorem enc_b {k : Int} {m : Nat} {b : List UInt8} (hk : k = (m : Int)) (hm : m = 2 ∨ m = 3) (h : b.length < 24) : (It.mk k 0 b []).enc = headB m b.length ++ b := by
 subst hk
 rw [enc_leaf, head_lt h, show hnI (m : Int) 0 b 0 = (b.length : Int) from if_pos (by omega), show 32 * (m : Int) + (b.length : Int) = ((32 * m + b.length : Nat) : Int) by omega, u8_nat']
 rfl
theorem enc_n {n : Nat} (h : n < 24) : (It.mk 0 (n : Int) [] []).enc = natB n := by
 rw [enc_leaf, natB, head_lt h, show hnI 0 (n : Int) [] 0 = (n : Int) from rfl, show 32 * 0 + (n : Int) = ((32 * 0 + n : Nat) : Int) by omega, u8_nat']
theorem enc_a {l : List It} (h : l.length < 24) : (It.mk 4 0 [] l).enc = arrB (l.map It.enc) := by
 have e : ∀ l : List It, encIs l = (l.map It.enc).flatten := fun l => by
  induction l with
  | nil => rw [encIs]; rfl
  | cons x l ih => rw [encIs, ih]; rfl
 rw [enc_arr, arrB, List.length_map, head_lt h, e, show 32 * 4 + (l.length : Int) = ((32 * 4 + l.length : Nat) : Int) by omega, u8_nat']
 rfl
theorem enc_null : (It.mk 7 22 [] []).enc = [0xf6] := by rw [enc_leaf]; rfl
def infoL (id ctx : List UInt8) (has : Bool) (kind : List UInt8) (n : Nat) : List It := [.mk 2 0 id [], if has = true then .mk 2 0 ctx [] else .mk 7 22 [] [], .mk 0 ((10 : Nat) : Int) [] [], .mk 3 0 kind [], .mk 0 (n : Int) [] []]
theorem info_enc {id ctx : List UInt8} {has : Bool} {kind : List UInt8} {n : Nat} (h1 : id.length < 24) (h2 : ctx.length < 24) (h3 : kind.length < 24) (h4 : n < 24) : (It.mk 4 0 [] (infoL id ctx has kind n)).enc = infoB id ctx has kind n := by
 have e : (infoL id ctx has kind n).map It.enc = [strB id, if has then strB ctx else [0xf6], natB 10, txtB kind, natB n] := by
  show [(It.mk 2 0 id []).enc, (if has = true then It.mk 2 0 ctx [] else It.mk 7 22 [] []).enc, (It.mk 0 ((10 : Nat) : Int) [] []).enc, (It.mk 3 0 kind []).enc, (It.mk 0 (n : Int) [] []).enc] = _
  rw [enc_b (k := 2) (m := 2) rfl (.inl rfl) h1, enc_n (by omega), enc_b (k := 3) (m := 3) rfl (.inr rfl) h3, enc_n h4]
  cases has with
  | true => rw [if_pos rfl, if_pos rfl, enc_b (k := 2) (m := 2) rfl (.inl rfl) h2]; rfl
  | false => rw [if_neg (by simp), if_neg (by simp), enc_null]; rfl
 rw [enc_a (by show 5 < 24; omega), e]; rfl
theorem info_len {id ctx : List UInt8} {has : Bool} {kind : List UInt8} {n : Nat} (h1 : id.length < 24) (h2 : ctx.length < 24) (h3 : kind.length < 24) (h4 : n < 24) : (infoB id ctx has kind n).length ≤ 100 := by
 cases has <;> simp [infoB, arrB, strB, natB, txtB, head_lt, h1, h2, h3, h4] <;> omega
set_option maxHeartbeats 4000000 in
theorem rinfo_fn (id ctx : List UInt8) (has : Bool) (s : ByteArray) (kind : List UInt8) (n : Nat) (h1 : id.length < 24) (h2 : ctx.length < 24) (h3 : kind.length < 24) (h4 : n < 24) (htx : Sp Tryz.prog 126 [.val (.string s)] [] (Is (.agg (leafC 3 0 kind)))) :
  Sp Tryz.prog 106 [roB id, roB ctx, .val (.bool has), .val (.string s), .val (.int .i64 (n : Int))] [] (Is (roB (infoB id ctx has kind n))) := by
 have hen := info_enc (id := id) (ctx := ctx) (has := has) (kind := kind) (n := n) h1 h2 h3 h4
 have hll := info_len (id := id) (ctx := ctx) (has := has) (kind := kind) (n := n) h1 h2 h3 h4
 cases has with
 | true =>
  have hli := rlist_fn 0 (infoL id ctx true kind n) (by show 5 ≤ 1000; omega) (by
   intro y hy
   simp only [infoL, if_true, List.mem_cons, List.not_mem_nil, or_false] at hy
   rcases hy with rfl | rfl | rfl | rfl | rfl
   ·exact smIt_leaf (by omega)
   ·exact smIt_leaf (by omega)
   ·exact smIt_leaf (by simp)
   ·exact smIt_leaf (by omega)
   exact smIt_leaf (by simp))
  have hra := rawI_fn 1 (.mk 4 0 [] (infoL id ctx true kind n)) (.inr ⟨rfl, rfl, rfl, by show 5 < 24; omega, by
   intro y hy
   simp only [infoL, if_true, List.mem_cons, List.not_mem_nil, or_false] at hy
   rcases hy with rfl | rfl | rfl | rfl | rfl
   ·exact ⟨rfl, .inr ⟨.inl rfl, rfl, h1⟩⟩
   ·exact ⟨rfl, .inr ⟨.inl rfl, rfl, h2⟩⟩
   ·exact ⟨rfl, .inl ⟨.inl rfl, by omega, by omega, rfl⟩⟩
   ·exact ⟨rfl, .inr ⟨.inr rfl, rfl, h3⟩⟩
   exact ⟨rfl, .inl ⟨.inl rfl, by omega, by omega, rfl⟩⟩⟩) (by rw [hen]; omega)
  unfold RawSp at hra
  rw [hen] at hra
  rw [cells_mk] at hli hra
  simp only [infoL, if_true, itsA, cells_leaf, List.append_nil, List.cons_append, List.nil_append, List.length_cons, List.length_nil, Nat.zero_add, Nat.reduceAdd] at hli hra
  refine yv Tryz.func106 _ Tryz.ntmps106 (fun w0 R0 => ?_)
  refine zx (zm ?_)
  refine zc (zD (zl (zx (zm ?_))))
  refine z8 ?_
  refine zd ?_
  intro B1
  refine zb 0 rfl rfl rfl rfl rfl rfl (zD (zl (zx (zx (zm ?_)))))
  refine za (zD (zl ?_))
  refine AW.condT rfl (zm ?_)
  refine za ?_
  refine wI (xl rfl Tryz.func125 rfl rfl rfl (rbyt_fn _ (by omega))) ?_
  refine zb 0 rfl rfl rfl rfl rfl rfl (zD (zl (zx ?_)))
  refine yj 12 ?_
  simp only [List.take_succ_cons, List.take_zero, List.drop_succ_cons, List.drop_zero]
  refine zv ?_
  refine wJ (xl rfl Tryz.func125 rfl rfl rfl (rbyt_fn _ (by omega))) ?_
  refine wJ (zC rfl rfl) ?_
  refine wJ (xl rfl Tryz.func124 rfl rfl rfl (rint_fn _ ⟨by omega, by omega⟩)) ?_
  refine zv ?_
  refine wJ (xl rfl Tryz.func126 rfl rfl rfl htx) ?_
  refine zv ?_
  refine wJ (xl rfl Tryz.func124 rfl rfl rfl (rint_fn _ ⟨by omega, by omega⟩)) ?_
  refine wJ (OpW.frz (xa rfl rfl rfl) (by (unfold maxLen; omega))) ?_
  refine wJ (xl rfl Tryz.func123 rfl rfl rfl hli) ?_
  refine wJ (xl rfl Tryz.func122 rfl rfl rfl hra) ?_
  refine wJ zh ?_
  refine wg ?_
  simp only [chosen, List.nil_append, List.cons_append, List.append_nil]
  refine zD (zl (y1 ?_))
  refine xK rfl rfl ⟨_, List.nil_sublist _, .nil⟩ (⟨rfl, rfl⟩)
 | false =>
  have hli := rlist_fn 0 (infoL id ctx false kind n) (by show 5 ≤ 1000; omega) (by
   intro y hy
   simp only [infoL, if_neg (show ¬(false = true) by simp), List.mem_cons, List.not_mem_nil, or_false] at hy
   rcases hy with rfl | rfl | rfl | rfl | rfl
   ·exact smIt_leaf (by omega)
   ·exact smIt_leaf (by simp)
   ·exact smIt_leaf (by simp)
   ·exact smIt_leaf (by omega)
   exact smIt_leaf (by simp))
  have hra := rawI_fn 1 (.mk 4 0 [] (infoL id ctx false kind n)) (.inr ⟨rfl, rfl, rfl, by show 5 < 24; omega, by
   intro y hy
   simp only [infoL, if_neg (show ¬(false = true) by simp), List.mem_cons, List.not_mem_nil, or_false] at hy
   rcases hy with rfl | rfl | rfl | rfl | rfl
   ·exact ⟨rfl, .inr ⟨.inl rfl, rfl, h1⟩⟩
   ·exact ⟨rfl, .inl ⟨.inr rfl, by omega, by omega, rfl⟩⟩
   ·exact ⟨rfl, .inl ⟨.inl rfl, by omega, by omega, rfl⟩⟩
   ·exact ⟨rfl, .inr ⟨.inr rfl, rfl, h3⟩⟩
   exact ⟨rfl, .inl ⟨.inl rfl, by omega, by omega, rfl⟩⟩⟩) (by rw [hen]; omega)
  unfold RawSp at hra
  rw [hen] at hra
  rw [cells_mk] at hli hra
  simp only [infoL, if_neg (show ¬(false = true) by simp), itsA, cells_leaf, List.append_nil, List.cons_append, List.nil_append, List.length_cons, List.length_nil, Nat.zero_add, Nat.reduceAdd] at hli hra
  refine yv Tryz.func106 _ Tryz.ntmps106 (fun w0 R0 => ?_)
  refine zx (zm ?_)
  refine zc (zD (zl (zx (zm ?_))))
  refine z8 ?_
  refine zd ?_
  intro B1
  refine zb 0 rfl rfl rfl rfl rfl rfl (zD (zl (zx (zx (zm ?_)))))
  refine za (zD (zl ?_))
  refine AW.condF rfl (yN (zl (zx ?_)))
  refine yj 12 ?_
  simp only [List.take_succ_cons, List.take_zero, List.drop_succ_cons, List.drop_zero]
  refine zv ?_
  refine wJ (xl rfl Tryz.func125 rfl rfl rfl (rbyt_fn _ (by omega))) ?_
  refine wJ (zC rfl rfl) ?_
  refine wJ (xl rfl Tryz.func124 rfl rfl rfl (rint_fn _ ⟨by omega, by omega⟩)) ?_
  refine zv ?_
  refine wJ (xl rfl Tryz.func126 rfl rfl rfl htx) ?_
  refine zv ?_
  refine wJ (xl rfl Tryz.func124 rfl rfl rfl (rint_fn _ ⟨by omega, by omega⟩)) ?_
  refine wJ (OpW.frz (xa rfl rfl rfl) (by (unfold maxLen; omega))) ?_
  refine wJ (O.callC rfl Tryz.func123 rfl rfl rfl hli (by (repeat (first | exact CoeL.nil | refine CoeL.cons Coe.rfl ?_ | refine CoeL.cons Coe.nil ?_ | refine CoeL.cons (Coe.ro ?_) ?_)); done)) ?_
  refine wJ (xl rfl Tryz.func122 rfl rfl rfl hra) ?_
  refine wJ zh ?_
  refine wg ?_
  simp only [chosen, List.nil_append, List.cons_append, List.append_nil]
  refine zD (zl (y1 ?_))
  refine xK rfl rfl ⟨_, List.nil_sublist _, .nil⟩ (⟨rfl, rfl⟩)
/-! ### Associated data -/
def aadI (kid pb : List UInt8) : List It := [.mk 0 ((1 : Nat) : Int) [] [], .mk 4 0 [] [.mk 0 ((10 : Nat) : Int) [] []], .mk 2 0 kid [], .mk 2 0 pb [], .mk 2 0 [] []]
def aadX (kid pb : List UInt8) : List UInt8 := arrB [natB 1, arrB [natB 10], strB kid, strB pb, strB []]
theorem aadI_enc {kid pb : List UInt8} (h1 : kid.length < 24) (h2 : pb.length < 24) : (It.mk 4 0 [] (aadI kid pb)).enc = aadX kid pb := by
 have e : (aadI kid pb).map It.enc = [natB 1, arrB [natB 10], strB kid, strB pb, strB []] := by
  show [(It.mk 0 ((1 : Nat) : Int) [] []).enc, (It.mk 4 0 [] [.mk 0 ((10 : Nat) : Int) [] []]).enc, (It.mk 2 0 kid []).enc, (It.mk 2 0 pb []).enc, (It.mk 2 0 [] []).enc] = _
  rw [enc_b (k := 2) (m := 2) rfl (.inl rfl) h1, enc_b (k := 2) (m := 2) rfl (.inl rfl) h2, enc_b (k := 2) (m := 2) rfl (.inl rfl) (by simp), enc_n (by omega), enc_a (by simp), List.map_cons, List.map_nil, enc_n (by omega)]
  rfl
 rw [enc_a (by show 5 < 24; omega), e]; rfl
theorem aadX_len {kid pb : List UInt8} (h1 : kid.length ≤ 7) (h2 : pb.length ≤ 5) : (aadX kid pb).length < 24 := by
 unfold aadX arrB strB natB
 rw [head_lt (show kid.length < 24 by omega), head_lt (show pb.length < 24 by omega)]
 simp [head_lt]; omega
def aadO (x : List UInt8) : List It := [.mk 3 0 encT [], .mk 2 0 [] [], .mk 2 0 x []]
theorem aadO_enc {kid pb : List UInt8} (h1 : kid.length ≤ 7) (h2 : pb.length ≤ 5) : (It.mk 4 0 [] (aadO (aadX kid pb))).enc = aadB kid pb := by
 have h3 := aadX_len h1 h2
 have e : (aadO (aadX kid pb)).map It.enc = [txtB encT, strB [], strB (aadX kid pb)] := by
  show [(It.mk 3 0 encT []).enc, (It.mk 2 0 [] []).enc, (It.mk 2 0 (aadX kid pb) []).enc] = _
  rw [enc_b (k := 3) (m := 3) (b := encT) rfl (.inr rfl) (by decide), enc_b (k := 2) (m := 2) rfl (.inl rfl) (by simp), enc_b (k := 2) (m := 2) rfl (.inl rfl) h3]
  rfl
 rw [enc_a (by show 3 < 24; omega), e]; rfl
def aadR (kid : List UInt8) (piv : Int) : List UInt8 × Int := if 7 < kid.length then ([], 1) else if piv < 0 ∨ 1099511627775 < piv then ([], 8) else (aadB kid (pivB piv), 0)
end Go.Proofs.YtojomcdjcpmnkaaGreat.By

namespace Go.Proofs.YtojomcdjcpmnkaaGreat.By
open Go.RowKit L A
set_option linter.unusedVariables false
set_option maxRecDepth 20000
set_option linter.unusedSimpArgs false
attribute [local irreducible] AW AQ AO
abbrev by8 (a : UInt8) : AV := .val (.int .u8 (a.toNat : Int))
theorem all256 {p : UInt8 → Prop} (h : ∀ n : Nat, n < 256 → p (UInt8.ofNat n)) (a : UInt8) : p a := by
 have := h a.toNat a.toNat_lt
 rwa [UInt8.ofNat_toNat] at this
def dbl (a : UInt8) : UInt8 := if a &&& 128 = 0 then a <<< 1 else (a <<< 1) ^^^ 27
theorem dbl_x (a : UInt8) : Go.bits .xor .u8 (IntKind.u8.wrap ((a.toNat : Int) * 2)) 27 = (((a <<< 1) ^^^ 27).toNat : Int) := all256 (p := fun a => Go.bits .xor .u8 (IntKind.u8.wrap ((a.toNat : Int) * 2)) 27 = (((a <<< 1) ^^^ 27).toNat : Int)) (by decide +kernel) a
theorem dbl_s (a : UInt8) : IntKind.u8.wrap ((a.toNat : Int) * 2) = ((a <<< 1).toNat : Int) := all256 (p := fun a => IntKind.u8.wrap ((a.toNat : Int) * 2) = ((a <<< 1).toNat : Int)) (by decide +kernel) a
theorem dbl_a (a : UInt8) : Go.bits .and .u8 (a.toNat : Int) 128 = ((a &&& 128).toNat : Int) := all256 (p := fun a => Go.bits .and .u8 (a.toNat : Int) 128 = ((a &&& 128).toNat : Int)) (by decide +kernel) a
theorem and1 (a : UInt8) : Go.bits .and .u8 (a.toNat : Int) 1 = ((a &&& 1).toNat : Int) := all256 (p := fun a => Go.bits .and .u8 (a.toNat : Int) 1 = ((a &&& 1).toNat : Int)) (by decide +kernel) a
theorem toNat0 {a : UInt8} : (a.toNat : Int) = 0 ↔ a = 0 := ⟨fun h => UInt8.toNat_inj.1 (by simpa using h), fun h => by subst h; rfl⟩
theorem toNat1 {a : UInt8} : (a.toNat : Int) = 1 ↔ a = 1 := ⟨fun h => UInt8.toNat_inj.1 (by simp; omega), fun h => by subst h; rfl⟩
theorem dbl_fn (a : UInt8) : Sp Tryz.prog 195 [by8 a] [] (Is (by8 (dbl a))) := by
 refine yv Tryz.func195 _ Tryz.ntmps195 (fun w0 R0 => ?_)
 refine zx (zm ?_)
 refine zc (zD (zl (zx (zx (zm ?_)))))
 refine za ?_
 refine wI (O.and_ rfl rfl rfl (dbl_a a)) ?_
 refine yX (zD (zl ?_))
 refine yn (fun h => ?_) (fun h => ?_) <;> (try simp only [wN] at h)
 ·skip
  rw [toNat0] at h
  refine zx (zm ?_)
  refine za ?_
  refine wI (O.shlK 1 2 rfl rfl rfl rfl (by rfl) (by rfl)) ?_
  refine wI (O.xor_ rfl rfl rfl (dbl_x a)) ?_
  refine zc (zD (zl (y1 (xi ?_))))
  refine xK rfl rfl ⟨_, List.nil_sublist _, .nil⟩ (⟨by rw [dbl, if_neg h], rfl⟩)
 rw [toNat0] at h
 refine yN (zl (zx (zm ?_)))
 refine za ?_
 refine wI (O.shlK 1 2 rfl rfl rfl rfl (by rfl) (by rfl)) ?_
 refine zc (zD (zl (y1 ?_)))
 refine xK rfl rfl ⟨_, List.nil_sublist _, .nil⟩ (⟨by rw [dbl, if_pos h, dbl_s], rfl⟩)
def rotB (a : UInt8) (k : Nat) : UInt8 := u8 (Go.bits .or .u8 (IntKind.u8.wrap ((a.toNat : Int) * 2 ^ min ((k : Int) % 8).toNat IntKind.u8.bits)) (((a.toNat : Int)).fdiv (2 ^ min (8 - (k : Int) % 8).toNat IntKind.u8.bits)))
theorem rotB_eq (a : UInt8) {k : Nat} (hk : k < 8) : Go.bits .or .u8 (IntKind.u8.wrap ((a.toNat : Int) * 2 ^ min ((k : Int) % 8).toNat IntKind.u8.bits)) (((a.toNat : Int)).fdiv (2 ^ min (8 - (k : Int) % 8).toNat IntKind.u8.bits)) = ((rotB a k).toNat : Int) :=
 all256 (p := fun a => ∀ k : Nat, k < 8 → Go.bits .or .u8 (IntKind.u8.wrap ((a.toNat : Int) * 2 ^ min ((k : Int) % 8).toNat IntKind.u8.bits)) (((a.toNat : Int)).fdiv (2 ^ min (8 - (k : Int) % 8).toNat IntKind.u8.bits)) = ((rotB a k).toNat : Int)) (by decide +kernel) a k hk
theorem rot8_fn (a : UInt8) (k : Nat) (hk : k < 8) : Sp Tryz.prog 196 [by8 a, .val (.int .i64 (k : Int))] [] (Is (by8 (rotB a k))) := by
 refine yv Tryz.func196 _ Tryz.ntmps196 (fun w0 R0 => ?_)
 refine zx (zm ?_)
 refine zc (zD (zl (zx (zm ?_))))
 refine za ?_
 refine xh ?_
 refine wI (O.and_ rfl rfl rfl (andU64 3 (by decide) (by decide) (m := 8) (by decide) (by omega))) ?_
 refine zc (zD (zl (zx (zm ?_))))
 refine za ?_
 refine za ?_
 refine wI (O.shl rfl rfl rfl (by omega) rfl) ?_
 refine za ?_
 refine za ?_
 refine wI (O.sub rfl rfl rfl (by exact wU64 (by omega))) ?_
 refine wI (O.shr rfl rfl rfl (by omega) rfl) ?_
 refine wI (O.or_ rfl rfl rfl rfl) ?_
 refine zc (zD (zl (y1 ?_)))
 refine xK rfl rfl ⟨_, List.nil_sublist _, .nil⟩ (⟨by rw [rotB_eq a hk], rfl⟩)
/-- Products of polynomials. -/
def prodN : Nat → UInt8 → UInt8 → UInt8 → UInt8
 | 0, _, _, p => p
 | n + 1, a, b, p => prodN n (dbl a) (b >>> 1) (if b &&& 1 = 1 then p ^^^ a else p)
def prod (a b : UInt8) : UInt8 := prodN 8 a b 0
theorem prodN_zero : ∀ n a p, prodN n a 0 p = p
 | 0, _, _ => rfl
 | n + 1, a, p => by
  show prodN n (dbl a) ((0 : UInt8) >>> 1) (if (0 : UInt8) &&& 1 = 1 then p ^^^ a else p) = p
  rw [show (0 : UInt8) >>> 1 = 0 from rfl, if_neg (by decide)]
  exact prodN_zero n _ p
theorem shr1 (b : UInt8) : ((b >>> 1).toNat : Int) = (b.toNat : Int) / 2 := all256 (p := fun b => ((b >>> 1).toNat : Int) = (b.toNat : Int) / 2) (by decide +kernel) b
set_option maxHeartbeats 1000000 in
theorem product_fn (a b : UInt8) : Sp Tryz.prog 212 [by8 a, by8 b] [] (Is (by8 (prod a b))) := by
 refine yv Tryz.func212 _ Tryz.ntmps212 (fun w0 R0 => ?_)
 refine zx (zm ?_)
 refine zc (zD (zl (zx (zm ?_))))
 refine zc (zD (zl (zx (yS ?_))))
 refine AW.loopK [] (fun nn E H => ∃ (x : UInt8) (y : UInt8) (p : UInt8) (m : Nat), (prodN m x y p = prod a b) ∧ (y.toNat < 2 ^ m) ∧ nn = y.toNat ∧ E = [(0, by8 x), (1, by8 y), (5, by8 p)] ∧ H = []) _ (⟨a, b, 0, 8, rfl, b.toNat_lt, rfl, rfl, rfl⟩) (by repeat (exact envNil)) (by repeat (first | exact envNil | refine envCons rfl ?_)) (by repeat (exact subPnil)) ?_
 rintro nn E H ⟨x, y, p, m, hp, hm, rfl, rfl, rfl⟩
 dsimp only [List.cons_append, List.nil_append]
 refine zx (zx (zm ?_))
 refine za ?_
 refine yX (zD (zl ?_))
 refine yn (fun h => ?_) (fun h => ?_) <;> (try simp only [wN] at h)
 ·skip
  rw [toNat0] at h
  obtain ⟨m, rfl⟩ : ∃ m', m = m' + 1 := by
   cases m with
   | zero => exact absurd (UInt8.toNat_inj.1 (by simpa using hm)) h
   | succ m => exact ⟨m, rfl⟩
  have hpos : 0 < y.toNat := by
   rcases Nat.eq_zero_or_pos y.toNat with h0 | h0
   ·exact absurd (UInt8.toNat_inj.1 h0) h
   exact h0
  have hsh := shr1 y
  have hm2 : (y >>> 1).toNat < 2 ^ m := by rw [Nat.pow_succ] at hm; omega
  refine yN (zl (zx (yS (zx (zx (zm ?_))))))
  refine za ?_
  refine wI (O.and_ rfl rfl rfl (and1 _)) ?_
  refine yd (zD (zl ?_))
  refine yn (fun h1 => ?_) (fun h1 => ?_) <;> (try simp only [wN] at h1)
  ·skip
   rw [toNat1] at h1
   refine zm ?_
   refine za ?_
   refine za ?_
   refine wv ?_
   refine zc (zD (zl (zm ?_)))
   refine za ?_
   refine wI (xl rfl Tryz.func195 rfl rfl rfl (dbl_fn _)) ?_
   refine zc (zD (y5 (zl (zm ?_))))
   refine za ?_
   refine wI (xU 1 2) ?_
   refine zc (zD ?_)
   rw [← hsh]
   refine xG _ _ _ (by omega) (⟨dbl x, y >>> 1, p ^^^ x, m, by rw [← hp, prodN, if_pos h1], hm2, rfl, rfl, rfl⟩)
  rw [toNat1] at h1
  refine yN (zl (zm ?_))
  refine za ?_
  refine wI (xl rfl Tryz.func195 rfl rfl rfl (dbl_fn _)) ?_
  refine zc (zD (y5 (zl (zm ?_))))
  refine za ?_
  refine wI (xU 1 2) ?_
  refine zc (zD ?_)
  rw [← hsh]
  refine xG _ _ _ (by omega) (⟨dbl x, y >>> 1, p, m, by rw [← hp, prodN, if_neg h1], hm2, rfl, rfl, rfl⟩)
 rw [toNat0] at h
 subst h
 rw [prodN_zero] at hp
 subst hp
 refine xD ?_
 refine xr ?_
 refine xA ?_
 refine yZ (zl (zx (zm ?_)))
 refine za ?_
 refine zc (zD (zl (y1 ?_)))
 refine xK rfl rfl ⟨_, List.nil_sublist _, .nil⟩ (⟨rfl, rfl⟩)
/-! the reference's -/
def mulN : Nat → UInt8 → UInt8 → UInt8 → UInt8
 | 0, _, _, p => p
 | n + 1, a, b, p => mulN n (dbl a) (b >>> 1) (if b &&& 1 = 1 then p ^^^ a else p)
theorem mulN_eq : ∀ n a b p, mulN n a b p = prodN n a b p
 | 0, _, _, _ => rfl
 | n + 1, a, b, p => mulN_eq n _ _ _
theorem shr7 (a : UInt8) : ((a.toNat : Int) / 128 = 1) ↔ ¬ a &&& 128 = 0 := all256 (p := fun a => ((a.toNat : Int) / 128 = 1) ↔ ¬ a &&& 128 = 0) (by decide +kernel) a
theorem dbl_y {a : UInt8} (h : ¬ a &&& 128 = 0) : dbl a = (a <<< 1) ^^^ 27 := if_neg h
theorem dbl_n {a : UInt8} (h : a &&& 128 = 0) : dbl a = a <<< 1 := if_pos h
set_option maxHeartbeats 2000000 in
theorem mul_fn (a b : UInt8) : Sp Tryz.prog 209 [by8 a, by8 b] [] (Is (by8 (prod a b))) := by
 refine yv Tryz.func209 _ Tryz.ntmps209 (fun w0 R0 => ?_)
 refine zx (zm ?_)
 refine zc (zD (zl (zx (zm ?_))))
 refine zc (zD (zl (zx (zx (zm ?_)))))
 refine za (zD (zl (yS ?_)))
 refine AW.loopK [] (fun nn E H => ∃ (k : Nat) (x : UInt8) (y : UInt8) (p : UInt8), (k ≤ 8) ∧ (mulN (8 - k) x y p = prod a b) ∧ nn = 8 - k ∧ E = [(0, by8 x), (1, by8 y), (5, by8 p), (7, .val (.int .i64 (k : Int)))] ∧ H = []) _ (⟨0, a, b, 0, by omega, mulN_eq 8 a b 0, rfl, rfl, rfl⟩) (by repeat (exact envNil)) (by repeat (first | exact envNil | refine envCons rfl ?_)) (by repeat (exact subPnil)) ?_
 rintro nn E H ⟨k, x, y, p, hk, hp, rfl, rfl, rfl⟩
 dsimp only [List.cons_append, List.nil_append]
 refine zx (zm ?_)
 refine zH (zD (zl (zx ?_)))
 refine yn (fun h => ?_) (fun h => ?_) <;> (try simp only [wN] at h)
 ·skip
  obtain ⟨m, hm⟩ : ∃ m, 8 - k = m + 1 := ⟨7 - k, by omega⟩
  have hm' : 8 - (k + 1) = m := by omega
  rw [hm, mulN] at hp
  have hsh := shr1 y
  refine yN (zl (zx (yS (zx (zx (zm ?_))))))
  refine za ?_
  refine wI (O.and_ rfl rfl rfl (and1 _)) ?_
  refine yd (zD (zl ?_))
  refine yn (fun h1 => ?_) (fun h1 => ?_) <;> (try simp only [wN] at h1)
  ·skip
   rw [toNat1] at h1
   rw [if_pos h1] at hp
   refine zm ?_
   refine za ?_
   refine za ?_
   refine wv ?_
   refine zc (zD (zl (zx (zm ?_))))
   refine za ?_
   refine wI (xU 7 128) ?_
   refine zc (zD (zl (zx (zm ?_))))
   refine za ?_
   refine wI (O.shlK 1 2 rfl rfl rfl rfl (by rfl) (by rfl)) ?_
   refine zc (zD (zl (zx (zx (zm ?_)))))
   refine za ?_
   refine yd (zD (zl ?_))
   refine yn (fun h2 => ?_) (fun h2 => ?_) <;> (try simp only [wN] at h2)
   ·skip
    rw [shr7] at h2
    refine zm ?_
    refine za ?_
    refine wI (O.xor_ rfl rfl rfl (dbl_x _)) ?_
    refine zc (zD (zl (zm ?_)))
    refine za ?_
    refine wI (xU 1 2) ?_
    refine zc (zD (y5 (zl (zm ?_))))
    refine zr ?_
    refine za (zD ?_)
    rw [← hsh]
    rw [← dbl_y h2]
    refine xG _ _ _ (by omega) (⟨k + 1, dbl x, y >>> 1, p ^^^ x, by omega, by rw [hm']; exact hp, rfl, rfl, rfl⟩)
   rw [shr7, Decidable.not_not] at h2
   refine yN (zl (zm ?_))
   refine za ?_
   refine wI (xU 1 2) ?_
   refine zc (zD (y5 (zl (zm ?_))))
   refine zr ?_
   refine za (zD ?_)
   rw [← hsh, dbl_s]
   rw [← dbl_n h2]
   refine xG _ _ _ (by omega) (⟨k + 1, dbl x, y >>> 1, p ^^^ x, by omega, by rw [hm']; exact hp, rfl, rfl, rfl⟩)
  rw [toNat1] at h1
  rw [if_neg h1] at hp
  refine yN (zl (zx (zm ?_)))
  refine za ?_
  refine wI (xU 7 128) ?_
  refine zc (zD (zl (zx (zm ?_))))
  refine za ?_
  refine wI (O.shlK 1 2 rfl rfl rfl rfl (by rfl) (by rfl)) ?_
  refine zc (zD (zl (zx (zx (zm ?_)))))
  refine za ?_
  refine yd (zD (zl ?_))
  refine yn (fun h2 => ?_) (fun h2 => ?_) <;> (try simp only [wN] at h2)
  ·skip
   rw [shr7] at h2
   refine zm ?_
   refine za ?_
   refine wI (O.xor_ rfl rfl rfl (dbl_x _)) ?_
   refine zc (zD (zl (zm ?_)))
   refine za ?_
   refine wI (xU 1 2) ?_
   refine zc (zD (y5 (zl (zm ?_))))
   refine zr ?_
   refine za (zD ?_)
   rw [← hsh]
   rw [← dbl_y h2]
   refine xG _ _ _ (by omega) (⟨k + 1, dbl x, y >>> 1, p, by omega, by rw [hm']; exact hp, rfl, rfl, rfl⟩)
  rw [shr7, Decidable.not_not] at h2
  refine yN (zl (zm ?_))
  refine za ?_
  refine wI (xU 1 2) ?_
  refine zc (zD (y5 (zl (zm ?_))))
  refine zr ?_
  refine za (zD ?_)
  rw [← hsh, dbl_s]
  rw [← dbl_n h2]
  refine xG _ _ _ (by omega) (⟨k + 1, dbl x, y >>> 1, p, by omega, by rw [hm']; exact hp, rfl, rfl, rfl⟩)
 obtain rfl : k = 8 := by omega
 have hp : p = prod a b := hp
 subst hp
 refine xD ?_
 refine xr ?_
 refine xA ?_
 refine yZ (zl (zx (zm ?_)))
 refine za ?_
 refine zc (zD (zl (y1 ?_)))
 refine xK rfl rfl ⟨_, List.nil_sublist _, .nil⟩ (⟨rfl, rfl⟩)
def rotR (a : UInt8) (k : Nat) : UInt8 := u8 (Go.bits .or .u8 (IntKind.u8.wrap ((a.toNat : Int) * 2 ^ min ((k : Int)).toNat IntKind.u8.bits)) (((a.toNat : Int)).fdiv (2 ^ min (8 - (k : Int)).toNat IntKind.u8.bits)))
theorem rotR_eq (a : UInt8) {k : Nat} (hk : k < 8) : Go.bits .or .u8 (IntKind.u8.wrap ((a.toNat : Int) * 2 ^ min ((k : Int)).toNat IntKind.u8.bits)) (((a.toNat : Int)).fdiv (2 ^ min (8 - (k : Int)).toNat IntKind.u8.bits)) = ((rotR a k).toNat : Int) :=
 all256 (p := fun a => ∀ k : Nat, k < 8 → Go.bits .or .u8 (IntKind.u8.wrap ((a.toNat : Int) * 2 ^ min ((k : Int)).toNat IntKind.u8.bits)) (((a.toNat : Int)).fdiv (2 ^ min (8 - (k : Int)).toNat IntKind.u8.bits)) = ((rotR a k).toNat : Int)) (by decide +kernel) a k hk
theorem rot_fn (a : UInt8) (k : Nat) (hk : k < 8) : Sp Tryz.prog 210 [by8 a, .val (.int .i64 (k : Int))] [] (Is (by8 (rotR a k))) := by
 refine yv Tryz.func210 _ Tryz.ntmps210 (fun w0 R0 => ?_)
 refine zx (zm ?_)
 refine zc (zD (zl (zx (zm ?_))))
 refine za ?_
 refine za ?_
 refine xh ?_
 refine wI (O.shl rfl rfl rfl (by omega) rfl) ?_
 refine za ?_
 refine za ?_
 refine yl ?_
 refine xh ?_
 refine wI (O.shr rfl rfl rfl (by omega) rfl) ?_
 refine wI (O.or_ rfl rfl rfl rfl) ?_
 refine zc (zD (zl (y1 ?_)))
 refine xK rfl rfl ⟨_, List.nil_sublist _, .nil⟩ (⟨by rw [rotR_eq a hk], rfl⟩)
end Go.Proofs.YtojomcdjcpmnkaaGreat.By

namespace Go.Proofs.YtojomcdjcpmnkaaGreat.By
open Go.RowKit L A
set_option linter.unusedVariables false
set_option maxRecDepth 20000
def k256 : List UInt32 := [0x428a2f98, 0x71374491, 0xb5c0fbcf, 0xe9b5dba5, 0x3956c25b, 0x59f111f1, 0x923f82a4, 0xab1c5ed5, 0xd807aa98, 0x12835b01, 0x243185be, 0x550c7dc3, 0x72be5d74, 0x80deb1fe, 0x9bdc06a7, 0xc19bf174, 0xe49b69c1, 0xefbe4786, 0x0fc19dc6, 0x240ca1cc, 0x2de92c6f, 0x4a7484aa, 0x5cb0a9dc, 0x76f988da, 0x983e5152, 0xa831c66d, 0xb00327c8, 0xbf597fc7, 0xc6e00bf3, 0xd5a79147, 0x06ca6351, 0x14292967, 0x27b70a85, 0x2e1b2138, 0x4d2c6dfc, 0x53380d13, 0x650a7354, 0x766a0abb, 0x81c2c92e, 0x92722c85, 0xa2bfe8a1, 0xa81a664b, 0xc24b8b70, 0xc76c51a3, 0xd192e819, 0xd6990624, 0xf40e3585, 0x106aa070, 0x19a4c116, 0x1e376c08, 0x2748774c, 0x34b0bcb5, 0x391c0cb3, 0x4ed8aa4a, 0x5b9cca4f, 0x682e6ff3, 0x748f82ee, 0x78a5636f, 0x84c87814, 0x8cc70208, 0x90befffa, 0xa4506ceb, 0xbef9a3f7, 0xc67178f2]
structure H8 where
 a : UInt32
 b : UInt32
 c : UInt32
 d : UInt32
 e : UInt32
 f : UInt32
 g : UInt32
 h : UInt32
 deriving DecidableEq
def h256 : H8 := ⟨0x6a09e667, 0xbb67ae85, 0x3c6ef372, 0xa54ff53a, 0x510e527f, 0x9b05688c, 0x1f83d9ab, 0x5be0cd19⟩
def rr (x n : UInt32) : UInt32 := (x >>> n) ||| (x <<< (32 - n))
def wordB (b : List UInt8) (t : Nat) : UInt32 := ((b.getD (4 * t) 0).toUInt32 <<< 24) ||| ((b.getD (4 * t + 1) 0).toUInt32 <<< 16) ||| ((b.getD (4 * t + 2) 0).toUInt32 <<< 8) ||| (b.getD (4 * t + 3) 0).toUInt32
def nextW (w : List UInt32) (t : Nat) : UInt32 :=
 let x := w.getD (t - 15) 0
 let y := w.getD (t - 2) 0
 (rr y 17 ^^^ rr y 19 ^^^ (y >>> 10)) + w.getD (t - 7) 0 + (rr x 7 ^^^ rr x 18 ^^^ (x >>> 3)) + w.getD (t - 16) 0
def wTo (b : List UInt8) : Nat → List UInt32
 | 0 => []
 | t + 1 => let w := wTo b t; w ++ [if t < 16 then wordB b t else nextW w t]
def rnd (k w : UInt32) (s : H8) : H8 :=
 let t1 := s.h + (rr s.e 6 ^^^ rr s.e 11 ^^^ rr s.e 25) + ((s.e &&& s.f) ^^^ (~~~s.e &&& s.g)) + k + w
 let t2 := (rr s.a 2 ^^^ rr s.a 13 ^^^ rr s.a 22) + ((s.a &&& s.b) ^^^ (s.a &&& s.c) ^^^ (s.b &&& s.c))
 ⟨t1 + t2, s.a, s.b, s.c, s.d + t1, s.e, s.f, s.g⟩
def rnds (w : List UInt32) (s : H8) : Nat → H8
 | 0 => s
 | t + 1 => rnd (k256.getD t 0) (w.getD t 0) (rnds w s t)
def addH (x y : H8) : H8 := ⟨x.a + y.a, x.b + y.b, x.c + y.c, x.d + y.d, x.e + y.e, x.f + y.f, x.g + y.g, x.h + y.h⟩
def blockH (h : H8) (b : List UInt8) : H8 := addH h (rnds (wTo b 64) h 64)
/-- How many zeros come behind the byte 128. -/
def padZ (n : Nat) : Nat := (119 - n % 64) % 64
def lenB (n : Nat) : List UInt8 := [56, 48, 40, 32, 24, 16, 8, 0].map fun s => UInt8.ofNat (n * 8 / 2 ^ s)
def padB (b : List UInt8) : List UInt8 := b ++ [128] ++ List.replicate (padZ b.length) 0 ++ lenB b.length
def blocksH (p : List UInt8) : Nat → H8
 | 0 => h256
 | k + 1 => blockH (blocksH p k) ((p.drop (64 * k)).take 64)
def w4 (x : UInt32) : List UInt8 := [(x >>> 24).toUInt8, (x >>> 16).toUInt8, (x >>> 8).toUInt8, x.toUInt8]
def outH (h : H8) : List UInt8 := w4 h.a ++ w4 h.b ++ w4 h.c ++ w4 h.d ++ w4 h.e ++ w4 h.f ++ w4 h.g ++ w4 h.h
def sha (b : List UInt8) : List UInt8 := outH (blocksH (padB b) ((padB b).length / 64))
theorem sha_len (b : List UInt8) : (sha b).length = 32 := rfl
theorem padB_len (b : List UInt8) : (padB b).length % 64 = 0 := by
 simp only [padB, List.length_append, List.length_replicate, List.length_singleton, show (lenB b.length).length = 8 from rfl, padZ]
 omega
def keyB (k : List UInt8) : List UInt8 := let x := if 64 < k.length then sha k else k; x ++ List.replicate (64 - x.length) 0
def hmac (k b : List UInt8) : List UInt8 := sha ((keyB k).map (· ^^^ 92) ++ sha ((keyB k).map (· ^^^ 54) ++ b))
theorem hmac_len (k b : List UInt8) : (hmac k b).length = 32 := rfl
/-- The part of the key stream that begins in round k. -/
def expT (prk info : List UInt8) : Nat → List UInt8
 | 0 => []
 | k + 1 => hmac prk (expT prk info k ++ info ++ [UInt8.ofNat (k + 1)])
def expAll (prk info : List UInt8) (k : Nat) : List UInt8 := (List.range k).flatMap fun i => expT prk info (i + 1)
def expand (prk info : List UInt8) (n : Nat) : List UInt8 := (expAll prk info ((n + 31) / 32)).take n
/-! ### The example -/
def exSecret : List UInt8 := [1, 2, 3, 4, 5, 6, 7, 8, 9, 10, 11, 12, 13, 14, 15, 16]
def exSalt : List UInt8 := [0x9e, 0x7c, 0xa9, 0x22, 0x23, 0x78, 0x63, 0x40]
def exPrk : List UInt8 := [0xbf, 0x4f, 0x72, 0xde, 0x4e, 0xed, 0x44, 0xa4, 0x95, 0x13, 0x90, 0xe7, 0x12, 0x78, 0x49, 0xde, 0x97, 0xd6, 0x17, 0xb1, 0x94, 0x0f, 0x1a, 0xb6, 0xc1, 0x82, 0xb8, 0xa1, 0x47, 0xdb, 0x8d, 0xc4]
theorem ex_prk : hmac exSalt exSecret = exPrk := by decide +kernel
theorem ex_key : expand exPrk [0x85, 0x40, 0xf6, 0x0a, 0x63, 0x4b, 0x65, 0x79, 0x10] 16 = [0xf0, 0x91, 0x0e, 0xd7, 0x29, 0x5e, 0x6a, 0xd4, 0xb5, 0x4f, 0xc7, 0x93, 0x15, 0x43, 0x02, 0xff] := by decide +kernel
theorem ex_rkey : expand exPrk [0x85, 0x41, 0x01, 0xf6, 0x0a, 0x63, 0x4b, 0x65, 0x79, 0x10] 16 = [0xff, 0xb1, 0x4e, 0x09, 0x3c, 0x94, 0xc9, 0xca, 0xc9, 0x47, 0x16, 0x48, 0xb4, 0xf9, 0x87, 0x10] := by decide +kernel
theorem ex_iv : expand exPrk [0x85, 0x40, 0xf6, 0x0a, 0x62, 0x49, 0x56, 0x0d] 13 = [0x46, 0x22, 0xd4, 0xdd, 0x6d, 0x94, 0x41, 0x68, 0xee, 0xfb, 0x54, 0x98, 0x7c] := by decide +kernel
end Go.Proofs.YtojomcdjcpmnkaaGreat.By

namespace Go.Proofs.YtojomcdjcpmnkaaGreat.A
open Go.RowKit L
set_option linter.unusedVariables false
set_option maxRecDepth 20000
set_option linter.unusedSimpArgs false
theorem wrap_u32 (x : Int) : IntKind.u32.wrap x = x % 4294967296 := by
 show (if false = true ∧ x % (2 ^ 32) ≥ 2 ^ (32 - 1) then x % (2 ^ 32) - 2 ^ 32 else x % (2 ^ 32)) = _
 rw [if_neg (by simp)]; rfl
theorem wraps_u32 (n : Int) (h0 : 0 ≤ n) (h1 : n < 2 ^ 32) : IntKind.u32.wrap n = n := by rw [wrap_u32]; omega
theorem add32 {a b : UInt32} : IntKind.u32.wrap ((a.toNat : Int) + (b.toNat : Int)) = ((a + b).toNat : Int) := by
 rw [wrap_u32, UInt32.toNat_add]; omega
theorem xor32 {a b : UInt32} : Go.bits .xor .u32 (a.toNat : Int) (b.toNat : Int) = ((a ^^^ b).toNat : Int) := by
 have e : (BitVec.ofInt 32 (a.toNat : Int) ^^^ BitVec.ofInt 32 (b.toNat : Int)).toNat = (a ^^^ b).toNat := by
  rw [BitVec.toNat_xor, BitVec.ofInt_natCast, BitVec.ofInt_natCast, BitVec.toNat_ofNat, BitVec.toNat_ofNat, Nat.mod_eq_of_lt a.toNat_lt, Nat.mod_eq_of_lt b.toNat_lt, UInt32.toNat_xor]
 show IntKind.u32.wrap ((BitVec.ofInt 32 (a.toNat : Int) ^^^ BitVec.ofInt 32 (b.toNat : Int)).toNat : Int) = _
 rw [e]
 have := (a ^^^ b).toNat_lt
 exact wraps_u32 _ (by omega) (by omega)
theorem and32 {a b : UInt32} : Go.bits .and .u32 (a.toNat : Int) (b.toNat : Int) = ((a &&& b).toNat : Int) := by
 have e : (BitVec.ofInt 32 (a.toNat : Int) &&& BitVec.ofInt 32 (b.toNat : Int)).toNat = (a &&& b).toNat := by
  rw [BitVec.toNat_and, BitVec.ofInt_natCast, BitVec.ofInt_natCast, BitVec.toNat_ofNat, BitVec.toNat_ofNat, Nat.mod_eq_of_lt a.toNat_lt, Nat.mod_eq_of_lt b.toNat_lt, UInt32.toNat_and]
 show IntKind.u32.wrap ((BitVec.ofInt 32 (a.toNat : Int) &&& BitVec.ofInt 32 (b.toNat : Int)).toNat : Int) = _
 rw [e]
 have := (a &&& b).toNat_lt
 exact wraps_u32 _ (by omega) (by omega)
theorem or32 {a b : UInt32} : Go.bits .or .u32 (a.toNat : Int) (b.toNat : Int) = ((a ||| b).toNat : Int) := by
 have e : (BitVec.ofInt 32 (a.toNat : Int) ||| BitVec.ofInt 32 (b.toNat : Int)).toNat = (a ||| b).toNat := by
  rw [BitVec.toNat_or, BitVec.ofInt_natCast, BitVec.ofInt_natCast, BitVec.toNat_ofNat, BitVec.toNat_ofNat, Nat.mod_eq_of_lt a.toNat_lt, Nat.mod_eq_of_lt b.toNat_lt, UInt32.toNat_or]
 show IntKind.u32.wrap ((BitVec.ofInt 32 (a.toNat : Int) ||| BitVec.ofInt 32 (b.toNat : Int)).toNat : Int) = _
 rw [e]
 have := (a ||| b).toNat_lt
 exact wraps_u32 _ (by omega) (by omega)
/-- Shifts by a constant. -/
theorem shr32 {a : UInt32} {n : Nat} (hn : n < 32) : ((a.toNat : Int)).fdiv (2 ^ (min ((n : Int)).toNat IntKind.u32.bits)) = ((a >>> UInt32.ofNat n).toNat : Int) := by
 rw [Int.toNat_natCast, show IntKind.u32.bits = 32 from rfl, Nat.min_eq_left (by omega), UInt32.toNat_shiftRight, UInt32.toNat_ofNat', Nat.shiftRight_eq_div_pow,
  show n % 2 ^ 32 % 32 = n by rw [Nat.mod_eq_of_lt (show n < 2 ^ 32 by omega)]; omega, Int.fdiv_eq_ediv_of_nonneg _ (Int.le_of_lt (Int.pow_pos (by decide)))]
 simp
theorem shl32 {a : UInt32} {n : Nat} (hn : n < 32) : IntKind.u32.wrap ((a.toNat : Int) * 2 ^ (min ((n : Int)).toNat IntKind.u32.bits)) = ((a <<< UInt32.ofNat n).toNat : Int) := by
 rw [Int.toNat_natCast, show IntKind.u32.bits = 32 from rfl, Nat.min_eq_left (by omega), UInt32.toNat_shiftLeft, UInt32.toNat_ofNat', Nat.shiftLeft_eq,
  show n % 2 ^ 32 % 32 = n by rw [Nat.mod_eq_of_lt (show n < 2 ^ 32 by omega)]; omega, wrap_u32]
 simp
/-- Bytes and words. -/
theorem conv8to32 {b : UInt8} : IntKind.u32.wrap (b.toNat : Int) = (b.toUInt32.toNat : Int) := by
 have := b.toNat_lt
 rw [wrap_u32, UInt8.toNat_toUInt32]; omega
theorem conv32to8 {a : UInt32} : IntKind.u8.wrap (a.toNat : Int) = (a.toUInt8.toNat : Int) := by
 rw [wU8any, UInt32.toNat_toUInt8]
 simp only [u8, UInt8.toNat_ofNat']
 omega
section
variable {P : Program} {E : Env} {H : List HE} {N : Nat} {o : Oper}
theorem com32 {a : UInt32} : Go.bits .xor .u32 IntKind.u32.max (a.toNat : Int) = ((~~~a).toNat : Int) := by
 have h : IntKind.u32.max = ((4294967295 : UInt32).toNat : Int) := by decide
 rw [h, xor32]
 congr 2
/-- The complement. -/
theorem O.com32 {T : Nat} {x : Operand} {a : UInt32} (ho : o.op = .unOp .xor T x) (hx : ev E x = some (.val (.int .u32 (a.toNat : Int)))) : OpW P N o E H (Is (.val (.int .u32 ((~~~a).toNat : Int)))) := .of_run fun R a' W h1 h2 ha =>
 ⟨.int .u32 ((~~~a).toNat : Int), by
  have e : (Op.intBits .xor .u32 IntKind.u32.max (a.toNat : Int)).run P W = .ok (.int .u32 ((~~~a).toNat : Int)) W := by
   rw [← A.com32]; rfl
  simp [execOp, ho, (ha.ev hx).val_inv, Op.unary, show IntKind.u32.signed = false from rfl, e], .val _⟩
end
end Go.Proofs.YtojomcdjcpmnkaaGreat.A
namespace Go.Proofs.YtojomcdjcpmnkaaGreat.A
open Go.RowKit L
set_option linter.unusedVariables false
set_option maxRecDepth 20000
set_option linter.unusedSimpArgs false
abbrev e32 (a : UInt32) : Value := .int .u32 (a.toNat : Int)
abbrev e64 (a : UInt64) : Value := .int .u64 (a.toNat : Int)
section
variable {α : Type} {e : α → Value}
def arK (e : α → Value) (n : Nat) (f : Nat → α) : List AV := (List.range n).map fun q => AV.val (e (f q))
theorem arK_len (n : Nat) (f : Nat → α) : (arK e n f).length = n := by simp [arK]
theorem arK_get {n : Nat} {f : Nat → α} {k : Nat} (h : k < n) {j : Nat} (hj : j = k) : (arK e n f)[j]? = some (.val (e (f k))) := by subst hj; simp [arK, h]
theorem arK_congr {n : Nat} {f g : Nat → α} (h : ∀ q, q < n → f q = g q) : arK e n f = arK e n g := List.map_congr_left fun q hq => by rw [h q (List.mem_range.1 hq)]
theorem arK_set {n : Nat} {f : Nat → α} {k : Nat} (h : k < n) (v : α) {j : Nat} (hj : j = k) : splice (arK e n f) j [.val (e v)] = arK e n (fun q => if q = k then v else f q) := by
 subst hj
 show (arK e n f).set j _ = _
 apply List.ext_getElem?
 intro q
 rw [List.getElem?_set, arK, arK]
 by_cases hq : q < n
 ·by_cases e' : j = q
  ·subst e'; simp [h]
  ·simp [hq, e', show ¬ q = j from fun e'' => e' e''.symm]
 ·by_cases e' : j = q
  ·subst e'; omega
  ·simp [hq, e']
end
end Go.Proofs.YtojomcdjcpmnkaaGreat.A
namespace Go.Proofs.YtojomcdjcpmnkaaGreat.By
open Go.RowKit L A
set_option linter.unusedVariables false
set_option maxRecDepth 20000
set_option linter.unusedSimpArgs false
/-! ### Words of a block -/
theorem wTo_len (b : List UInt8) : ∀ t, (wTo b t).length = t
 | 0 => rfl
 | t + 1 => by
  show (wTo b t ++ [_]).length = _
  rw [List.length_append, wTo_len b t]; rfl
theorem wTo_step (b : List UInt8) (t q : Nat) : (wTo b (t + 1)).getD q 0 = if q = t then (if t < 16 then wordB b t else nextW (wTo b t) t) else (wTo b t).getD q 0 := by
 show (wTo b t ++ [_]).getD q 0 = _
 have hl := wTo_len b t
 by_cases h : q = t
 ·subst h
  rw [if_pos rfl, List.getD_eq_getElem?_getD, List.getElem?_append_right (by omega), hl]
  simp
 rw [if_neg h]
 simp only [List.getD_eq_getElem?_getD]
 by_cases h2 : q < t
 ·rw [List.getElem?_append_left (by omega)]
 rw [List.getElem?_append_right (by omega), hl]
 have h3 : 1 ≤ q - t := by omega
 rw [List.getElem?_eq_none (by simpa using h3), List.getElem?_eq_none (by omega)]
/-- The array of words after t steps. -/
def wArr (b : List UInt8) (t : Nat) : List AV := arK e32 64 fun q => (wTo b t).getD q 0
theorem wArr_set (b : List UInt8) {t : Nat} (ht : t < 64) {v : UInt32} (hv : v = if t < 16 then wordB b t else nextW (wTo b t) t) {j : Nat} (hj : j = t) : splice (wArr b t) j [.val (e32 v)] = wArr b (t + 1) := by
 unfold wArr
 rw [arK_set ht v hj]
 exact arK_congr fun q _ => by rw [wTo_step, hv]
theorem wArr_get (b : List UInt8) (t : Nat) {k : Nat} (hk : k < 64) {j : Nat} (hj : j = k) : (wArr b t)[j]? = some (.val (e32 ((wTo b t).getD k 0))) := arK_get hk hj
/-- The eight words of a state. -/
abbrev c8 (s : H8) : List AV := [.val (e32 s.a), .val (e32 s.b), .val (e32 s.c), .val (e32 s.d), .val (e32 s.e), .val (e32 s.f), .val (e32 s.g), .val (e32 s.h)]
theorem rnds_step (w : List UInt32) (s : H8) (t : Nat) : rnds w s (t + 1) = rnd (k256.getD t 0) (w.getD t 0) (rnds w s t) := rfl
/-! ### Padding -/
theorem padZ_end (n : Nat) : (n + 1 + padZ n) % 64 = 56 := by unfold padZ; omega
theorem padZ_before {n k : Nat} (h : k < padZ n) : (n + 1 + k) % 64 ≠ 56 := by unfold padZ at h; omega
theorem padZ_lt (n : Nat) : padZ n < 64 := by unfold padZ; omega
theorem padZ_of {n k : Nat} (hk : k ≤ padZ n) (h : (n + 1 + k) % 64 = 56) : k = padZ n := by
 by_cases g : k < padZ n
 ·exact absurd h (padZ_before g)
 omega
/-- The first k bytes of the length. -/
def lenTo (n k : Nat) : List UInt8 := (lenB n).take k
theorem lenTo_all (n : Nat) : lenTo n 8 = lenB n := rfl
theorem lenTo_step (n : Nat) {k : Nat} (hk : k < 8) : lenTo n (k + 1) = lenTo n k ++ [UInt8.ofNat (n * 8 / 2 ^ (8 * (7 - k)))] := by
 match k, hk with
 | 0, _ | 1, _ | 2, _ | 3, _ | 4, _ | 5, _ | 6, _ | 7, _ => rfl
theorem sha_of (b : List UInt8) {p : List UInt8} {k : Nat} (hp : p = padB b) (hk : 64 * k = p.length) : outH (blocksH p k) = sha b := by
 subst hp
 unfold sha
 rw [← hk, Nat.mul_div_cancel_left _ (by omega)]
/-! ### Keys -/
theorem keyB_len (k : List UInt8) : (keyB k).length = 64 := by
 unfold keyB
 by_cases h : 64 < k.length
 ·simp only [if_pos h, List.length_append, List.length_replicate, sha_len]
 simp only [if_neg h, List.length_append, List.length_replicate]; omega
theorem expT_len (prk info : List UInt8) (k : Nat) : (expT prk info (k + 1)).length = 32 := rfl
theorem expAll_step (prk info : List UInt8) (k : Nat) : expAll prk info (k + 1) = expAll prk info k ++ expT prk info (k + 1) := by
 unfold expAll
 rw [List.range_succ, List.flatMap_append]
 simp
theorem expAll_len (prk info : List UInt8) : ∀ k, (expAll prk info k).length = 32 * k
 | 0 => rfl
 | k + 1 => by rw [expAll_step, List.length_append, expAll_len prk info k, expT_len]; omega
theorem expand_len {prk info : List UInt8} {n : Nat} : (expand prk info n).length = n := by
 unfold expand
 rw [List.length_take, expAll_len]
 omega
end Go.Proofs.YtojomcdjcpmnkaaGreat.By

namespace Go.Proofs.YtojomcdjcpmnkaaGreat.A
open Go.RowKit L
set_option linter.unusedVariables false
set_option maxRecDepth 20000
set_option linter.unusedSimpArgs false
section
variable {Γ : Cx} {P : Program} {Q : Exit → Act → World → Prop} {E : Env} {H : List HE} {N : Nat} {o : Oper} {ops : Array Oper} {rest : List Oper}
/-- x[l:h] of a slice that is read only, its length told. -/
theorem O.sliceLHm {m : Nat} {T : Nat} {x y y' : Operand} {full : Bool} {n : Nat} {l h : Nat} {kk kk' : IntKind} {z z' : Int} {xs ys : List AV} {U sz bs : Nat} {zz : Value} [hs : TyS P T U sz bs zz] (ho : o.op = .slice T x (some y) (some y') none) (hx : ev E x = some (.ro full n xs)) (hy : ev E y = some (.val (.int kk z))) (hy' : ev E y' = some (.val (.int kk' z')))
  (hz : z = (l : Int)) (hz' : z' = (h : Int)) (hlh : l ≤ h) (hhn : h ≤ n) (hm : h - l = m) (hys : (xs.drop (l * sz)).take (m * sz) = ys) : OpW P N o E H (Is (.ro false m ys)) := by
 subst hm
 exact O.sliceLH ho hx hy hy' hz hz' hlh hhn hys
end
theorem arB_app {n m : Nat} {f g : Nat → UInt8} : arB n f ++ arB m g = arB (n + m) (fun q => if q < n then f q else g (q - n)) := by
 apply List.ext_getElem?
 intro q
 rw [List.getElem?_append, arB_len]
 by_cases h : q < n
 ·rw [if_pos h, arB_get h rfl, arB_get (k := q) (by omega) rfl, if_pos h]
 ·rw [if_neg h]
  by_cases h2 : q < n + m
  ·rw [arB_get (k := q - n) (by omega) rfl, arB_get (k := q) h2 rfl, if_neg h]
  ·rw [List.getElem?_eq_none (by rw [arB_len]; omega), List.getElem?_eq_none (by rw [arB_len]; omega)]
end Go.Proofs.YtojomcdjcpmnkaaGreat.A
namespace Go.Proofs.YtojomcdjcpmnkaaGreat.By
open Go.RowKit L A
set_option linter.unusedVariables false
set_option maxRecDepth 20000
set_option linter.unusedSimpArgs false
attribute [local irreducible] AW AQ AO
theorem shl32' {a : UInt32} {n : Nat} {z : Int} (hz : z = (n : Int)) (hn : n < 32) : IntKind.u32.wrap ((a.toNat : Int) * 2 ^ (min z.toNat IntKind.u32.bits)) = ((a <<< UInt32.ofNat n).toNat : Int) := by
 subst hz; exact shl32 hn
theorem shr32' {a : UInt32} {n : Nat} {z : Int} (hz : z = (n : Int)) (hn : n < 32) : ((a.toNat : Int)).fdiv (2 ^ (min z.toNat IntKind.u32.bits)) = ((a >>> UInt32.ofNat n).toNat : Int) := by
 subst hz; exact shr32 hn
theorem rot32_fn (x : UInt32) (n : Nat) (hn : 0 < n ∧ n < 32) : Sp Tryz.prog 211 [.val (e32 x), .val (.int .i64 (0 - (n : Int)))] [] (Is (.val (e32 (rr x (UInt32.ofNat n))))) := by
 have hw : IntKind.u64.wrap (0 - (n : Int)) = 18446744073709551616 - (n : Int) := by rw [IntKind.wrap_u64]; omega
 have hr : (x <<< UInt32.ofNat (32 - n)) ||| (x >>> UInt32.ofNat n) = rr x (UInt32.ofNat n) := by
  unfold rr
  rw [UInt32.or_comm, show (32 : UInt32) - UInt32.ofNat n = UInt32.ofNat (32 - n) by rw [UInt32.ofNat_sub (by omega)]; rfl]
 refine yv Tryz.func211 _ Tryz.ntmps211 (fun w0 R0 => ?_)
 refine zx (zm ?_)
 refine zc (zD (zl (zx (zm ?_))))
 refine za ?_
 refine wI (O.conv rfl rfl (by rfl)) ?_
 refine wI (O.and_ rfl rfl rfl (andU64 5 (by decide) (by decide) (m := 32) (by decide) (by omega))) ?_
 refine zc (zD (zl (zx (zm ?_))))
 refine za ?_
 refine za ?_
 refine wI (O.shl rfl rfl rfl (by omega) (shl32' (n := 32 - n) (by omega) (by omega))) ?_
 refine za ?_
 refine za ?_
 refine wI (O.sub rfl rfl rfl (by exact wU64 (by omega))) ?_
 refine wI (O.shr rfl rfl rfl (by omega) (shr32' (n := n) (by omega) (by omega))) ?_
 refine wI (O.or_ rfl rfl rfl or32) ?_
 refine zc (zD (zl (y1 ?_)))
 refine xK rfl rfl ⟨_, List.nil_sublist _, .nil⟩ (⟨by rw [hr], rfl⟩)
theorem r32_fn (x : UInt32) (n : Nat) (hn : 0 < n ∧ n < 32) : Sp Tryz.prog 205 [.val (e32 x), .val (.int .i64 (n : Int))] [] (Is (.val (e32 (rr x (UInt32.ofNat n))))) := by
 refine yv Tryz.func205 _ Tryz.ntmps205 (fun w0 R0 => ?_)
 refine zx (zm ?_)
 refine zc (zD (zl (zx (zm ?_))))
 refine za ?_
 refine za ?_
 refine wI (O.neg rfl rfl (by exact wI64 (by omega))) ?_
 refine wI (xl rfl Tryz.func211 rfl rfl rfl (rot32_fn x n hn)) ?_
 refine zc (zD (zl (y1 ?_)))
 refine xK rfl rfl ⟨_, List.nil_sublist _, .nil⟩ (⟨rfl, rfl⟩)
def kk512 : List UInt64 := [0x428a2f98d728ae22, 0x7137449123ef65cd, 0xb5c0fbcfec4d3b2f, 0xe9b5dba58189dbbc, 0x3956c25bf348b538, 0x59f111f1b605d019, 0x923f82a4af194f9b, 0xab1c5ed5da6d8118,
 0xd807aa98a3030242, 0x12835b0145706fbe, 0x243185be4ee4b28c, 0x550c7dc3d5ffb4e2, 0x72be5d74f27b896f, 0x80deb1fe3b1696b1, 0x9bdc06a725c71235, 0xc19bf174cf692694,
 0xe49b69c19ef14ad2, 0xefbe4786384f25e3, 0x0fc19dc68b8cd5b5, 0x240ca1cc77ac9c65, 0x2de92c6f592b0275, 0x4a7484aa6ea6e483, 0x5cb0a9dcbd41fbd4, 0x76f988da831153b5,
 0x983e5152ee66dfab, 0xa831c66d2db43210, 0xb00327c898fb213f, 0xbf597fc7beef0ee4, 0xc6e00bf33da88fc2, 0xd5a79147930aa725, 0x06ca6351e003826f, 0x142929670a0e6e70,
 0x27b70a8546d22ffc, 0x2e1b21385c26c926, 0x4d2c6dfc5ac42aed, 0x53380d139d95b3df, 0x650a73548baf63de, 0x766a0abb3c77b2a8, 0x81c2c92e47edaee6, 0x92722c851482353b,
 0xa2bfe8a14cf10364, 0xa81a664bbc423001, 0xc24b8b70d0f89791, 0xc76c51a30654be30, 0xd192e819d6ef5218, 0xd69906245565a910, 0xf40e35855771202a, 0x106aa07032bbd1b8,
 0x19a4c116b8d2d0c8, 0x1e376c085141ab53, 0x2748774cdf8eeb99, 0x34b0bcb5e19b48a8, 0x391c0cb3c5c95a63, 0x4ed8aa4ae3418acb, 0x5b9cca4f7763e373, 0x682e6ff3d6b2b8a3,
 0x748f82ee5defb2fc, 0x78a5636f43172f60, 0x84c87814a1f0ab72, 0x8cc702081a6439ec, 0x90befffa23631e28, 0xa4506cebde82bde9, 0xbef9a3f7b2c67915, 0xc67178f2e372532b,
 0xca273eceea26619c, 0xd186b8c721c0c207, 0xeada7dd6cde0eb1e, 0xf57d4f7fee6ed178, 0x06f067aa72176fba, 0x0a637dc5a2c898a6, 0x113f9804bef90dae, 0x1b710b35131c471b,
 0x28db77f523047d84, 0x32caab7b40c72493, 0x3c9ebe0a15c9bebc, 0x431d67c49c100d4c, 0x4cc5d4becb3e42b6, 0x597f299cfc657e2a, 0x5fcb6fab3ad6faec, 0x6c44198c4a475817]
def hh512 : List UInt64 := [0x6a09e667f3bcc908, 0xbb67ae8584caa73b, 0x3c6ef372fe94f82b, 0xa54ff53a5f1d36f1, 0x510e527fade682d1, 0x9b05688c2b3e6c1f, 0x1f83d9abfb41bd6b, 0x5be0cd19137e2179]
def kkA : List AV := kk512.map fun a => .val (e64 a)
theorem kkA_len : kkA.length = 80 := rfl
instance : TyB Tryz.prog 226 ((List.range 80).map fun i => (i * 1, 1)) (.agg ⟨List.replicate 80 (.int .u64 0)⟩) := ⟨_, Tryz.type226, by kernel_rfl, .inr ⟨80, 88, _, Tryz.underlying226, Tryz.type88, by kernel_rfl⟩⟩
set_option maxHeartbeats 4000000 in
theorem constants_fn : Sp Tryz.prog 204 [] [] (Is (.agg kkA)) := by
 refine yv Tryz.func204 _ Tryz.ntmps204 (fun w0 R0 => ?_)
 refine zx (zm ?_)
 refine zd ?_
 intro B1
 refine zD (zl (zx (zm ?_)))
 refine z8 ?_
 refine zb 0 rfl rfl rfl rfl rfl rfl (zD (zl (y1 ?_)))
 refine AQ.retCell rfl rfl (by repeat (exact List.Mem.head _)) (by rfl) rfl ⟨_, List.nil_sublist _, .nil⟩ (⟨rfl, rfl⟩)
set_option maxHeartbeats 4000000 in
theorem initial_fn : Sp Tryz.prog 192 [] [] (Is (.agg (hh512.map fun a => .val (e64 a)))) := by
 refine yv Tryz.func192 _ Tryz.ntmps192 (fun w0 R0 => ?_)
 refine zx (zm ?_)
 refine zd ?_
 intro B1
 refine zD (zl (zx (zm ?_)))
 refine z8 ?_
 refine zb 0 rfl rfl rfl rfl rfl rfl (zD (zl (y1 ?_)))
 refine AQ.retCell rfl rfl (by repeat (exact List.Mem.head _)) (by rfl) rfl ⟨_, List.nil_sublist _, .nil⟩ (⟨rfl, rfl⟩)
end Go.Proofs.YtojomcdjcpmnkaaGreat.By

namespace Go.Proofs.YtojomcdjcpmnkaaGreat.By
open Go.RowKit L A
set_option linter.unusedVariables false
set_option maxRecDepth 20000
set_option linter.unusedSimpArgs false
attribute [local irreducible] AW AQ AO
theorem kkA_get {k : Nat} (h : k < 80) {j : Nat} (hj : j = k) : kkA[j]? = some (.val (e64 (kk512.getD k 0))) := by
 subst hj
 have hl : kk512.length = 80 := rfl
 simp [kkA, List.getD, show j < kk512.length by omega]
theorem kk_at {t : Nat} (h : t < 64) : IntKind.u32.wrap (((kk512.getD t 0).toNat : Int) / 4294967296) = ((k256.getD t 0).toNat : Int) := by
 have key : ∀ t, t < 64 → (kk512.getD t 0).toNat / 4294967296 = (k256.getD t 0).toNat := by decide +kernel
 have := key t h
 have h2 := (k256.getD t 0).toNat_lt
 rw [wrap_u32]
 omega
theorem wArr_len (b : List UInt8) (t : Nat) : (wArr b t).length = 64 := arK_len _ _
def h8 (s : H8) (q : Nat) : UInt32 := match q with | 0 => s.a | 1 => s.b | 2 => s.c | 3 => s.d | 4 => s.e | 5 => s.f | 6 => s.g | _ => s.h
def mixH (s r : H8) (i q : Nat) : UInt32 := if q < i then h8 s q + h8 r q else h8 s q
theorem mixH_set (s r : H8) (i q : Nat) : (if q = i then mixH s r i i + h8 r i else mixH s r i q) = mixH s r (i + 1) q := by
 unfold mixH
 by_cases h : q = i
 ·subst h; rw [if_pos rfl, if_neg (by omega), if_pos (by omega)]
 rw [if_neg h]
 by_cases h2 : q < i
 ·rw [if_pos h2, if_pos (by omega)]
 rw [if_neg h2, if_neg (by omega)]
theorem mixH_all (s r : H8) : arK e32 8 (mixH s r 8) = c8 (addH s r) := rfl
theorem c8_get (r : H8) {k : Nat} (h : k < 8) {j : Nat} (hj : j = k) : (c8 r)[j]? = some (.val (e32 (h8 r k))) := by
 subst hj
 have hc : j = 0 ∨ j = 1 ∨ j = 2 ∨ j = 3 ∨ j = 4 ∨ j = 5 ∨ j = 6 ∨ j = 7 := by omega
 rcases hc with rfl | rfl | rfl | rfl | rfl | rfl | rfl | rfl <;> rfl
theorem mixH_zero (s r : H8) : arK e32 8 (mixH s r 0) = c8 s := rfl
set_option maxHeartbeats 8000000 in
theorem block256_fn (s : H8) (b : List UInt8) (hb : b.length = 64) : Sp Tryz.prog 194 [.agg (c8 s), roB b] [] (Is (.agg (c8 (blockH s b)))) := by
 refine yv Tryz.func194 _ Tryz.ntmps194 (fun w0 R0 => ?_)
 refine zx (zm ?_)
 refine ya ?_
 intro B1
 refine zd ?_
 intro B2
 refine zD (zl (zx (zm ?_)))
 refine wI (xl rfl Tryz.func204 rfl rfl rfl constants_fn) ?_
 refine zd ?_
 intro B3
 refine yp 0 rfl rfl rfl rfl rfl rfl (zD (zl (zx (zm ?_))))
 refine zd ?_
 intro B4
 refine zD (zl (zx (zx (zm ?_))))
 refine za (zD (zl (yS ?_)))
 have hsp : ∀ xs : List AV, xs.length = 80 → splice xs 0 kkA = kkA := fun xs h => splice_full (by rw [h, kkA_len])
 rw [hsp _ rfl]
 refine zg [(1, _), (2, _), (4, _), (5, _), (6, _)] (fun nn E H => ∃ (t : Nat), (t ≤ 64) ∧ nn = 64 - t ∧ E = [(18, .val (.int .i64 (t : Int)))] ∧ H = [.blk B4 228 64 (wArr b t), .blk B3 226 80 kkA, .blk B2 207 8 [.val (e32 0), .val (e32 0), .val (e32 0), .val (e32 0), .val (e32 0), .val (e32 0), .val (e32 0), .val (e32 0)], .blk B1 207 8 (c8 s)]) _ (⟨0, by omega, rfl, rfl, rfl⟩) ?_
 rintro nn E H ⟨t, ht, rfl, rfl, rfl⟩
 dsimp only [List.cons_append, List.nil_append]
 refine zx (zm ?_)
 refine zH (zD (zl (zx ?_)))
 refine yn (fun hlt => ?_) (fun hlt => ?_) <;> (try simp only [wN] at hlt)
 ·skip
  refine yN (zl (zx (yS (zx (zm ?_)))))
  refine za ?_
  refine zc (zD (zl (zx (zx (zm ?_)))))
  refine za ?_
  refine zH (zD (zl ?_))
  refine yn (fun h16 => ?_) (fun h16 => ?_) <;> (try simp only [wN] at h16)
  ·skip
   have hwv : wordB b t = if t < 16 then wordB b t else nextW (wTo b t) t := (if_pos (by omega)).symm
   refine zx ?_
   refine yj 35 ?_
   simp only [List.take_succ_cons, List.take_zero, List.drop_succ_cons, List.drop_zero]
   refine zv ?_
   refine zv ?_
   refine zv ?_
   refine yH ?_
   refine xx ?_
   refine wJ (O.loadR rfl rfl (by exact bt_at (k := 4 * t) (by omega) (by omega))) ?_
   refine wJ (O.conv rfl rfl conv8to32) ?_
   refine wJ (O.shl rfl rfl rfl (by omega) (shl32' (n := 24) rfl (by decide))) ?_
   refine zv ?_
   refine zv ?_
   refine yH ?_
   refine y2 ?_
   refine xx ?_
   refine wJ (O.loadR rfl rfl (by exact bt_at (k := 4 * t + 1) (by omega) (by omega))) ?_
   refine wJ (O.conv rfl rfl conv8to32) ?_
   refine wJ (O.shl rfl rfl rfl (by omega) (shl32' (n := 16) rfl (by decide))) ?_
   refine wJ (O.or_ rfl rfl rfl or32) ?_
   refine zv ?_
   refine zv ?_
   refine yH ?_
   refine y2 ?_
   refine xx ?_
   refine wJ (O.loadR rfl rfl (by exact bt_at (k := 4 * t + 2) (by omega) (by omega))) ?_
   refine wJ (O.conv rfl rfl conv8to32) ?_
   refine wJ (O.shl rfl rfl rfl (by omega) (shl32' (n := 8) rfl (by decide))) ?_
   refine wJ (O.or_ rfl rfl rfl or32) ?_
   refine zv ?_
   refine zv ?_
   refine yH ?_
   refine y2 ?_
   refine xx ?_
   refine wJ (O.loadR rfl rfl (by exact bt_at (k := 4 * t + 3) (by omega) (by omega))) ?_
   refine wJ (O.conv rfl rfl conv8to32) ?_
   refine wJ (O.or_ rfl rfl rfl or32) ?_
   refine yi ?_
   refine wg ?_
   simp only [chosen, List.nil_append, List.cons_append, List.append_nil]
   refine AO.store (i := 0) rfl rfl rfl rfl rfl rfl (by rfl) (by rfl) (Nat.ble_eq_true_of_le (by rw [wArr_len]; omega)) (by exact wArr_set b (by omega) hwv (by omega)) (by (dsimp only [List.set, List.append, List.cons_append, List.nil_append, AV.cells, splice, List.take, List.drop, Nat.reduceAdd]; done)) (zD (zl ?_))
   refine xD ?_
   refine xr ?_
   refine yZ (zl (zm ?_))
   refine zr ?_
   refine za (zD ?_)
   refine zj _ _ _ (by omega) (⟨t + 1, by omega, rfl, rfl, rfl⟩)
  have hwv : nextW (wTo b t) t = if t < 16 then wordB b t else nextW (wTo b t) t := (if_neg (by omega)).symm
  refine yN (zl (zx ?_))
  refine yj 10 ?_
  simp only [List.take_succ_cons, List.take_zero, List.drop_succ_cons, List.drop_zero]
  refine zv ?_
  refine xc ?_
  refine yi ?_
  refine wJ (O.load rfl rfl (by repeat (exact List.Mem.head _)) (by exact wArr_get b t (k := t - 15) (by omega) (by omega))) ?_
  refine zv ?_
  refine xc ?_
  refine yi ?_
  refine wJ (O.load rfl rfl (by repeat (exact List.Mem.head _)) (by exact wArr_get b t (k := t - 2) (by omega) (by omega))) ?_
  refine wJ zh ?_
  refine wJ zh ?_
  refine wg ?_
  simp only [chosen, List.nil_append, List.cons_append, List.append_nil]
  refine zD (zl ?_)
  refine yj 29 ?_
  simp only [List.take_succ_cons, List.take_zero, List.drop_succ_cons, List.drop_zero]
  refine zv ?_
  refine zv ?_
  refine wJ (xl rfl Tryz.func205 rfl rfl rfl (r32_fn _ 17 ⟨by decide, by decide⟩)) ?_
  refine zv ?_
  refine wJ (xl rfl Tryz.func205 rfl rfl rfl (r32_fn _ 19 ⟨by decide, by decide⟩)) ?_
  refine wF ?_
  refine zv ?_
  refine wJ (O.shr rfl rfl rfl (by omega) (shr32' (n := 10) rfl (by decide))) ?_
  refine wF ?_
  refine zv ?_
  refine xc ?_
  refine yi ?_
  refine wJ (O.load rfl rfl (by repeat (exact List.Mem.head _)) (by exact wArr_get b t (k := t - 7) (by omega) (by omega))) ?_
  refine wJ (O.add rfl rfl rfl add32) ?_
  refine zv ?_
  refine wJ (xl rfl Tryz.func205 rfl rfl rfl (r32_fn _ 7 ⟨by decide, by decide⟩)) ?_
  refine zv ?_
  refine wJ (xl rfl Tryz.func205 rfl rfl rfl (r32_fn _ 18 ⟨by decide, by decide⟩)) ?_
  refine wF ?_
  refine zv ?_
  refine wJ (O.shr rfl rfl rfl (by omega) (shr32' (n := 3) rfl (by decide))) ?_
  refine wF ?_
  refine wJ (O.add rfl rfl rfl add32) ?_
  refine zv ?_
  refine xc ?_
  refine yi ?_
  refine wJ (O.load rfl rfl (by repeat (exact List.Mem.head _)) (by exact wArr_get b t (k := t - 16) (by omega) (by omega))) ?_
  refine wJ (O.add rfl rfl rfl add32) ?_
  refine yi ?_
  refine wg ?_
  simp only [chosen, List.nil_append, List.cons_append, List.append_nil]
  refine AO.store (i := 0) rfl rfl rfl rfl rfl rfl (by rfl) (by rfl) (Nat.ble_eq_true_of_le (by rw [wArr_len]; omega)) (by exact wArr_set b (by omega) hwv (by omega)) (by (dsimp only [List.set, List.append, List.cons_append, List.nil_append, AV.cells, splice, List.take, List.drop, Nat.reduceAdd]; done)) (zD (y5 (zl (zm ?_))))
  refine zr ?_
  refine za (zD ?_)
  refine zj _ _ _ (by omega) (⟨t + 1, by omega, rfl, rfl, rfl⟩)
 obtain rfl : t = 64 := by omega
 refine xD ?_
 refine xr ?_
 refine xA ?_
 refine yZ (zl (zx (zm ?_)))
 refine wI (O.loadK rfl rfl (by repeat (first | exact List.Mem.head _ | refine List.Mem.tail _ ?_)) (by (dsimp only [List.set, List.append, List.cons_append, List.nil_append, AV.cells, splice, List.take, List.drop, Nat.reduceAdd]; done)) (by rfl)) ?_
 refine zd ?_
 intro B5
 refine yp 0 rfl rfl rfl rfl rfl rfl (zD (zl (zx (zx (zm ?_)))))
 refine za (zD (zl (yS ?_)))
 refine zg [(2, _), (4, _), (5, _), (6, _), (10, _)] (fun nn E H => ∃ (t : Nat), (t ≤ 64) ∧ nn = 64 - t ∧ E = [(97, .val (.int .i64 (t : Int)))] ∧ H = [.blk B5 207 8 (c8 (rnds (wTo b 64) s t)), .blk B4 228 64 (wArr b 64), .blk B3 226 80 kkA, .blk B2 207 8 [.val (e32 0), .val (e32 0), .val (e32 0), .val (e32 0), .val (e32 0), .val (e32 0), .val (e32 0), .val (e32 0)], .blk B1 207 8 (c8 s)]) _ (⟨0, by omega, rfl, rfl, rfl⟩) ?_
 rintro nn E H ⟨t, ht, rfl, rfl, rfl⟩
 dsimp only [List.cons_append, List.nil_append]
 refine zx (zm ?_)
 refine zH (zD (zl (zx ?_)))
 refine yn (fun hlt => ?_) (fun hlt => ?_) <;> (try simp only [wN] at hlt)
 ·skip
  have hkt := kk_at (t := t) (by omega)
  have hrd := rnds_step (wTo b 64) s t
  have hk1 : ∀ j, j = t → kkA[j]? = some (.val (e64 (kk512.getD t 0))) := fun j hj => kkA_get (by omega) hj
  have hw1 : ∀ j, j = t → (wArr b 64)[j]? = some (.val (e32 ((wTo b 64).getD t 0))) := fun j hj => wArr_get b 64 (by omega) hj
  have hwl := wArr_len b 64
  generalize (wTo b 64).getD t 0 = wt at *
  generalize rnds (wTo b 64) s t = q at *
  generalize wArr b 64 = WA at *
  generalize kkA = KA at *
  generalize kk512.getD t 0 = kt at *
  generalize k256.getD t 0 = kc at *
  refine yN (zl (zx (yS (zx (zm ?_)))))
  refine za ?_
  refine zc (zD (zl (zx ?_)))
  refine yj 6 ?_
  simp only [List.take_succ_cons, List.take_zero, List.drop_succ_cons, List.drop_zero]
  refine yi ?_
  refine yq ?_
  refine yi ?_
  refine yq ?_
  refine wJ zh ?_
  refine wJ zh ?_
  refine wg ?_
  simp only [chosen, List.nil_append, List.cons_append, List.append_nil]
  refine zD (zl (zx ?_))
  refine yj 33 ?_
  simp only [List.take_succ_cons, List.take_zero, List.drop_succ_cons, List.drop_zero]
  refine yi ?_
  refine yq ?_
  refine zv ?_
  refine wJ (xl rfl Tryz.func205 rfl rfl rfl (r32_fn _ 6 ⟨by decide, by decide⟩)) ?_
  refine zv ?_
  refine wJ (xl rfl Tryz.func205 rfl rfl rfl (r32_fn _ 11 ⟨by decide, by decide⟩)) ?_
  refine wF ?_
  refine zv ?_
  refine wJ (xl rfl Tryz.func205 rfl rfl rfl (r32_fn _ 25 ⟨by decide, by decide⟩)) ?_
  refine wF ?_
  refine wJ (O.add rfl rfl rfl add32) ?_
  refine zv ?_
  refine yi ?_
  refine yq ?_
  refine wJ (O.and_ rfl rfl rfl and32) ?_
  refine zv ?_
  refine wJ (O.com32 rfl rfl) ?_
  refine yi ?_
  refine yq ?_
  refine wJ (O.and_ rfl rfl rfl and32) ?_
  refine wF ?_
  refine wJ (O.add rfl rfl rfl add32) ?_
  refine zv ?_
  refine yi ?_
  refine wJ (O.load rfl rfl (by repeat (first | exact List.Mem.head _ | refine List.Mem.tail _ ?_)) (by exact hk1 _ (by omega))) ?_
  refine wJ (xU 32 4294967296) ?_
  refine wJ (O.conv rfl rfl hkt) ?_
  refine wJ (O.add rfl rfl rfl add32) ?_
  refine zv ?_
  refine yi ?_
  refine wJ (O.load rfl rfl (by repeat (first | exact List.Mem.head _ | refine List.Mem.tail _ ?_)) (by exact hw1 _ (by omega))) ?_
  refine wJ (O.add rfl rfl rfl add32) ?_
  refine wJ zh ?_
  refine wg ?_
  simp only [chosen, List.nil_append, List.cons_append, List.append_nil]
  refine zD (zl (zx ?_))
  refine yj 25 ?_
  simp only [List.take_succ_cons, List.take_zero, List.drop_succ_cons, List.drop_zero]
  refine zv ?_
  refine wJ (xl rfl Tryz.func205 rfl rfl rfl (r32_fn _ 2 ⟨by decide, by decide⟩)) ?_
  refine zv ?_
  refine wJ (xl rfl Tryz.func205 rfl rfl rfl (r32_fn _ 13 ⟨by decide, by decide⟩)) ?_
  refine wF ?_
  refine zv ?_
  refine wJ (xl rfl Tryz.func205 rfl rfl rfl (r32_fn _ 22 ⟨by decide, by decide⟩)) ?_
  refine wF ?_
  refine zv ?_
  refine yi ?_
  refine yq ?_
  refine wJ (O.and_ rfl rfl rfl and32) ?_
  refine zv ?_
  refine yi ?_
  refine yq ?_
  refine wJ (O.and_ rfl rfl rfl and32) ?_
  refine wF ?_
  refine yi ?_
  refine yq ?_
  refine yi ?_
  refine yq ?_
  refine wJ (O.and_ rfl rfl rfl and32) ?_
  refine wF ?_
  refine wJ (O.add rfl rfl rfl add32) ?_
  refine wJ zh ?_
  refine wg ?_
  simp only [chosen, List.nil_append, List.cons_append, List.append_nil]
  refine zD (zl (zm ?_))
  refine za ?_
  refine za ?_
  refine wI (O.add rfl rfl rfl add32) ?_
  refine za ?_
  refine xL ?_
  refine zo ?_
  refine xL ?_
  refine zo ?_
  refine xL ?_
  refine zo ?_
  refine za ?_
  refine wI (O.add rfl rfl rfl add32) ?_
  refine za ?_
  refine xL ?_
  refine zo ?_
  refine xL ?_
  refine zo ?_
  refine z8 ?_
  refine yp 0 rfl rfl rfl rfl rfl rfl (zD (y5 (zl (zm ?_))))
  refine zr ?_
  refine za (zD ?_)
  refine zj _ _ _ (by omega) (⟨t + 1, by omega, rfl, rfl, by rw [hrd]⟩)
 obtain rfl : t = 64 := by omega
 generalize hr : rnds (wTo b 64) s 64 = r at *
 have hbr : blockH s b = addH s r := by rw [← hr]; rfl
 generalize wArr b 64 = WA at *
 generalize kkA = KA at *
 rw [← mixH_zero s r]
 refine xD ?_
 refine xr ?_
 refine xA ?_
 refine yZ (zl (zx (zx (zm ?_))))
 refine za (zD (zl (yS ?_)))
 refine zg [(2, _), (4, _), (10, _)] (fun nn E H => ∃ (i : Nat), (i ≤ 8) ∧ nn = 8 - i ∧ E = [(179, .val (.int .i64 (i : Int)))] ∧ H = [.blk B5 207 8 (c8 r), .blk B4 228 64 WA, .blk B3 226 80 KA, .blk B2 207 8 [.val (e32 0), .val (e32 0), .val (e32 0), .val (e32 0), .val (e32 0), .val (e32 0), .val (e32 0), .val (e32 0)], .blk B1 207 8 (arK e32 8 (mixH s r i))]) _ (⟨0, by omega, rfl, rfl, rfl⟩) ?_
 rintro nn E H ⟨i, hi, rfl, rfl, rfl⟩
 dsimp only [List.cons_append, List.nil_append]
 refine zx (zm ?_)
 refine zH (zD (zl (zx ?_)))
 refine yn (fun hlt => ?_) (fun hlt => ?_) <;> (try simp only [wN] at hlt)
 ·skip
  have hg1 : ∀ j, j = i → (arK e32 8 (mixH s r i))[j]? = some (.val (e32 (mixH s r i i))) := fun j hj => arK_get (by omega) hj
  have hg2 : ∀ j, j = i → (c8 r)[j]? = some (.val (e32 (h8 r i))) := fun j hj => c8_get r (by omega) hj
  have hs1 : ∀ j, j = i → splice (arK e32 8 (mixH s r i)) j [.val (e32 (mixH s r i i + h8 r i))] = arK e32 8 (mixH s r (i + 1)) := fun j hj => by
   rw [arK_set (by omega : i < 8) _ hj]
   exact arK_congr fun q _ => mixH_set s r i q
  have hln : (arK e32 8 (mixH s r i)).length = 8 := arK_len _ _
  refine yN (zl (zx (yS (zx (zm ?_)))))
  refine za ?_
  refine zc (zD (zl ?_))
  refine yj 8 ?_
  simp only [List.take_succ_cons, List.take_zero, List.drop_succ_cons, List.drop_zero]
  refine zv ?_
  refine yi ?_
  refine wJ (O.load rfl rfl (by repeat (first | exact List.Mem.head _ | refine List.Mem.tail _ ?_)) (by exact hg1 _ (by omega))) ?_
  refine zv ?_
  refine yi ?_
  refine wJ (O.load rfl rfl (by repeat (exact List.Mem.head _)) (by exact hg2 _ (by omega))) ?_
  refine wJ (O.add rfl rfl rfl add32) ?_
  refine yi ?_
  refine wg ?_
  simp only [chosen, List.nil_append, List.cons_append, List.append_nil]
  refine AO.store (i := 4) rfl rfl rfl rfl rfl rfl (by rfl) (by rfl) (by exact Nat.ble_eq_true_of_le (by rw [hln]; omega)) (by exact hs1 _ (by omega)) (by (dsimp only [List.set, List.append, List.cons_append, List.nil_append, AV.cells, splice, List.take, List.drop, Nat.reduceAdd]; done)) (zD (y5 (zl (zm ?_))))
  refine zr ?_
  refine za (zD ?_)
  refine zj _ _ _ (by omega) (⟨i + 1, by omega, rfl, rfl, rfl⟩)
 obtain rfl : i = 8 := by omega
 rw [mixH_all]
 refine xD ?_
 refine xr ?_
 refine xA ?_
 refine yZ (zl (zx (zm ?_)))
 refine wI (O.loadK rfl rfl (by repeat (first | exact List.Mem.head _ | refine List.Mem.tail _ ?_)) (by (dsimp only [List.set, List.append, List.cons_append, List.nil_append, AV.cells, splice, List.take, List.drop, Nat.reduceAdd]; done)) (by rfl)) ?_
 refine yp 3 rfl rfl rfl rfl rfl rfl (zD (zl (y1 ?_)))
 refine AQ.retCell rfl rfl (by repeat (first | exact List.Mem.head _ | refine List.Mem.tail _ ?_)) (by rfl) rfl ⟨_, List.nil_sublist _, .nil⟩ (⟨congrArg (fun x => AV.agg (c8 x)) hbr.symm, rfl⟩)
end Go.Proofs.YtojomcdjcpmnkaaGreat.By

namespace Go.Proofs.YtojomcdjcpmnkaaGreat.A
open Go.RowKit L
section
variable {Γ : Cx} {P : Program} {E : Env} {H : List HE} {N : Nat} {o : Oper}
theorem RelV.plain {R R' : Nat → Prop} {W W' : World} {x : AV} {u : Value} (hx : ∃ c, x = .val c) (h : RelV R W x u) : RelV R' W' x u := by
 obtain ⟨c, rfl⟩ := hx
 rw [h.val_inv]; exact .val _
theorem RelV.plainT {R R' : Nat → Prop} {W W' : World} {xs : List AV} {u : Value} (hx : ∀ x ∈ xs, ∃ c, x = AV.val c) (h : RelV R W (.tup xs) u) : RelV R' W' (.tup xs) u := by
 cases h with
 | tup _ cs hs hc => exact .tup xs cs hs fun j hj => (hc j hj).plain (hx _ (List.getElem_mem hj))
theorem HE.plainRow {R R' : Nat → Prop} {W : World} {v : Value} {T sz n : Nat} {xs : List AV} (hx : ∀ x ∈ xs, ∃ c, x = AV.val c) (h : HE.ok R W (.row v T sz n xs)) : HE.ok R' W (.row v T sz n xs) := by
 obtain ⟨us, ho, hl, hr⟩ := h
 exact ⟨us, ho, hl, fun j hj => (hr j hj).plain (hx _ (List.getElem_mem hj))⟩
theorem vals_arB (n : Nat) (f : Nat → UInt8) : ∀ x ∈ arB n f, ∃ c, x = AV.val c := fun x hx => by
 rw [arB_eq] at hx
 obtain ⟨q, _, rfl⟩ := List.mem_map.1 hx
 exact ⟨_, rfl⟩
def PlainP (Post : AV → List HE → Prop) : Prop := ∀ r Hn, Post r Hn → (∀ (R R' : Nat → Prop) W u, RelV R W r u → RelV R' W r u) ∧ ∀ e ∈ Hn, ∀ (R R' : Nat → Prop) W, HE.ok R W e → HE.ok R' W e
theorem O.callLP {f : FuncId} {xs : List Operand} {ats : Array TypeId} {args args' : List AV} {v : Value} {T sz n : Nat} {rs : List AV} {fn : Func} {Post : AV → List HE → Prop} (ho : o.op = .call { callee := .value (.func f), args := xs.toArray, argTypes := ats }) (hfn : P.funcs[f]? = some fn) (hn : (fn.name == "runtime.NumGoroutine") = false) (hb : fn.body.isNone = false)
  (hx : evs E xs = some args) (hm : HE.row v T sz n rs ∈ H) (h : Sp P f args' [] Post) (hp : PlainP Post) (hl : LendL v (.ro false n rs) args args') : OpW P N o E H Post := fun R a W h0 h2 h3 ha => by
 have hR : ∀ b, R b → R b ∨ (HE.row v T sz n rs).foot b := fun _ h => .inl h
 have hlt : ∀ b, R b ∨ (HE.row v T sz n rs).foot b → b < W.heap.size := by
  rintro b (hb | hb)
  ·exact h0 b hb
  ·exact HE.ok_lt (h2 _ hm) hb
 unfold Oper.wp
 rw [run_callF ho hfn hn hb, List.map_toArray]
 have hc := h W _ (xs.map a.eval) hlt (fun e he => by cases he) .nil (hl.rel hR (row_ro (h2 _ hm)) (ha.evs hx))
 refine Calls.mono hc ?_
 rintro e W' ⟨u, r, H', R', rfl, hpo, hs, hv⟩
 have p := fn_post1 hs hv hlt
 obtain ⟨q1, q2⟩ := hp r H' hpo
 refine ⟨u, r, H', R, rfl, hpo, p.ext, fun _ h => h, fun _ h => .inl h, q1 _ _ _ _ hv, fun e he => ⟨q2 e he _ _ _ (p.ok e he).1, fun b hb => ?_⟩, p.disj⟩
 have := (p.ok e he).2 b hb
 exact ⟨this.1, fun hr => by have := h0 b hr; omega⟩
end
end Go.Proofs.YtojomcdjcpmnkaaGreat.A
namespace Go.Proofs.YtojomcdjcpmnkaaGreat.A
open Go.RowKit L
section
variable {Γ : Cx} {P : Program} {E : Env} {H : List HE} {N : Nat} {o : Oper}
inductive LendX (H : List HE) : List AV → List AV → Prop
 | nil : LendX H [] []
 | same {a : AV} {r r' : List AV} : LendX H r r' → LendX H (a :: r) (a :: r')
 | row {v : Value} {T sz n : Nat} {rs r r' : List AV} (i : Nat) (hi : H[i]? = some (.row v T sz n rs)) : LendX H r r' → LendX H (.val v :: r) (.ro false n rs :: r')
 | agg {xs xs' r r' : List AV} : LendX H xs xs' → LendX H r r' → LendX H (.agg xs :: r) (.agg xs' :: r')
theorem LendX.rel {R : Nat → Prop} {W : World} (hok : ∀ e ∈ H, e.ok R W) {a a' : List AV} (h : LendX H a a') : ∀ {us : List Value}, RelL R W a us → RelL (fun b => R b ∨ ∃ e ∈ H, e.foot b) W a' us := by
 induction h with
 | nil => intro us h; exact h.mono (fun _ h => .inl h) (fun _ _ => rfl)
 | same _ ih =>
  intro us h
  obtain ⟨u, r, rfl, h1, h2⟩ := h.uncons
  exact RelL.cons (h1.mono (fun _ h => .inl h) (fun _ _ => rfl)) (ih h2)
 | row i hi _ ih =>
  intro us h
  obtain ⟨u, r, rfl, h1, h2⟩ := h.uncons
  have := h1.val_inv
  subst this
  have hm := List.mem_of_getElem? hi
  exact RelL.cons ((row_ro (hok _ hm)).mono (fun b hb => hb.elim .inl fun hf => .inr ⟨_, hm, hf⟩) (fun _ _ => rfl)) (ih h2)
 | agg _ _ ih1 ih2 =>
  intro us h
  obtain ⟨u, r, rfl, h1, h2⟩ := h.uncons
  obtain ⟨vs, rfl, hv⟩ := h1.agg_inv
  exact RelL.cons (ih1 hv).toAgg (ih2 h2)
end
end Go.Proofs.YtojomcdjcpmnkaaGreat.A
namespace Go.Proofs.YtojomcdjcpmnkaaGreat.A
open Go.RowKit L
section
variable {Γ : Cx} {P : Program} {E : Env} {H : List HE} {N : Nat} {o : Oper}
/-- A guarded call that is made, to which one own block is given. -/
theorem AO.callMGw {Q : Exit → Act → World → Prop} {ops : Array Oper} {rest : List Oper} {f : FuncId} {d : Nat} {xs : List Operand} {ats : Array TypeId} {args : List AV} (i : Nat) {e : HE} {Post : AV → List HE → Prop} {fn : Func} (ho : o.op = .call { callee := .value (.func f), args := xs.toArray, argTypes := ats }) (hw : wantedIs ops E o = some true) (hfn : P.funcs[f]? = some fn) (hn : (fn.name == "runtime.NumGoroutine") = false) (hb : fn.body.isNone = false)
  (hx : evs E xs = some args) (hd : o.dst = some d) (hN : Nat.ble (d + 1) Γ.N = true) (hi : H[i]? = some e) (h : Sp P f args [e] Post) (next : ∀ r H', Post r H' → AO Γ P ops Q rest ((d, r) :: E) (H' ++ H.eraseIdx i)) : AO Γ P ops Q (o :: rest) E H := fun R a W hs ha => by
 have h1 := AO.callMG (o := { o with guard := none }) i ho rfl hfn hn hb hx hd hN hi h next R a W hs ha
 unfold wpList at h1 ⊢
 rw [if_pos (wanted_is ha hw)]
 rw [if_pos (by unfold Region.wanted; rfl)] at h1
 exact h1
end
end Go.Proofs.YtojomcdjcpmnkaaGreat.A
namespace Go.Proofs.YtojomcdjcpmnkaaGreat.A
open Go.RowKit L
set_option linter.unusedVariables false
set_option maxRecDepth 20000
set_option linter.unusedSimpArgs false
/-- What is known of the block of a package variable. -/
def GK (g : Nat) (vs : List Value) (W : World) : Prop := ∃ cs T, W.heap[g]? = some (.cells cs T (0, 0)) ∧ cs.toList = vs
theorem GK.lt {g : Nat} {vs : List Value} {W : World} (h : GK g vs W) : g < W.heap.size := by
 obtain ⟨cs, T, h, _⟩ := h
 exact (Array.getElem?_eq_some_iff.1 h).1
theorem GK.mods {g : Nat} {vs : List Value} {S : Nat → Prop} {W W' : World} (h : GK g vs W) (hm : Mods S W W') (hS : ¬ S g) : GK g vs W' := by
 have hl := h.lt
 obtain ⟨cs, T, h1, h2⟩ := h
 exact ⟨cs, T, by rw [hm.block g hl hS]; exact h1, h2⟩
/-- What a function does where the variable is known. -/
def SpK (K : World → Prop) (P : Program) (f : FuncId) (args : List AV) (H0 : List HE) (Post : AV → List HE → Prop) : Prop :=
 ∀ (W : World) (R : Nat → Prop) (us : List Value), K W → (∀ b, R b → b < W.heap.size) → (∀ e ∈ H0, e.ok R W ∧ ∀ b, e.foot b → ¬ R b) → H0.Pairwise Disj → RelL R W args us →
  Calls P f us.toArray W fun e W' => ∃ u r H' R', e = .returned u ∧ Post r H' ∧ RelS ⟨W, footOf H0, R, 0⟩ R' H' W' ∧ RelV R' W' r u
theorem SpK.of {K : World → Prop} {P : Program} {f : FuncId} {args : List AV} {H0 : List HE} {Post : AV → List HE → Prop} (h : Sp P f args H0 Post) : SpK K P f args H0 Post := fun W R us _ h1 h2 h3 h4 => h W R us h1 h2 h3 h4
theorem SpK.coe {K : World → Prop} {P : Program} {f : FuncId} {args args' : List AV} {H0 : List HE} {Post : AV → List HE → Prop} (h : SpK K P f args' H0 Post) (hc : CoeL args args') : SpK K P f args H0 Post := fun W R us hK h1 h2 h3 h4 => h W R us hK h1 h2 h3 (hc R W us h4)
theorem SpK.enter {K : World → Prop} {P : Program} {f : FuncId} {args : List AV} {H0 : List HE} {Post : AV → List HE → Prop} {fn : Func} {c : Code} (hf : P.funcs[f]? = some fn) (hb : fn.body = some c) (n : Nat) (hn : fn.ntmps = n) (hl : Nat.ble args.length n = true)
  (h : ∀ w0 R0, K w0 → AW ⟨w0, footOf H0, R0, n⟩ P (FnQ ⟨w0, footOf H0, R0, n⟩ P fn Post) c (envOf 0 args) H0) : SpK K P f args H0 Post := fun W R us hK h1 h2 h3 h4 => by
 refine calls_of_wp hf hb (h W R hK R _ W ⟨Mods.refl _ _, h1, fun _ h => h, fun _ h => .inl h, fun e he => (h2 e he).1, fun e he b hb => ⟨.inr ⟨e, he, hb⟩, (h2 e he).2 b hb⟩, h3⟩ ⟨rfl, ?_, ?_⟩)
 ·have := Nat.le_of_ble_eq_true hl
  have h5 := h4.1
  simp [hn]; omega
 ·intro t v ht
  have key : ∀ (args : List AV) (k : Nat), look (envOf k args) t = some v → k ≤ t ∧ args[t - k]? = some v := by
   intro args
   induction args with
   | nil => intro k h; cases h
   | cons x r ih =>
    intro k h
    rw [envOf] at h
    unfold look at h
    cases hb : Nat.beq k t with
    | true =>
     rw [hb] at h
     have := Nat.eq_of_beq_eq_true hb
     subst this
     simp at h ⊢; exact h
    | false =>
     rw [hb] at h
     obtain ⟨h5, h6⟩ := ih (k + 1) h
     have : k ≠ t := fun e => by subst e; simp at hb
     refine ⟨by omega, ?_⟩
     rw [show t - k = (t - (k + 1)) + 1 by omega]
     simpa using h6
  obtain ⟨_, h5⟩ := key args 0 ht
  obtain ⟨u, h6, h7⟩ := h4.get (j := t) (by simpa using h5)
  have ht' : t < us.length := (List.getElem?_eq_some_iff.1 h6).1
  have hu : us[t] = u := (List.getElem?_eq_some_iff.1 h6).2
  have : Act.eval { tmps := us.toArray ++ Array.replicate (fn.ntmps - us.toArray.size) undef, defers := [] } (.tmp t) = u := by
   simp only [Act.eval, Array.getD]
   rw [dif_pos (by simp; omega)]
   simp [Array.getElem_append, ht', hu]
  rw [this]; exact h7
section
variable {Γ : Cx} {P : Program} {Q : Exit → Act → World → Prop} {E : Env} {H : List HE} {N : Nat} {o : Oper} {ops : Array Oper} {rest : List Oper}
/-- x[i] of an array whose elements are of one cell -/
theorem O.index1 {T U : Nat} {x y : Operand} {n : Nat} {kk : IntKind} {z : Int} {xs : List AV} {v : AV} [hd : TyD P T (.array n U)] [hg : TyG P U false 1] (ho : o.op = .index T x y) (hx : ev E x = some (.agg xs)) (hy : ev E y = some (.val (.int kk z))) (hz : 0 ≤ z ∧ z < n) (hv : xs[z.toNat]? = some v) :
  OpW P N o E H (Is v) := .of_run fun R a W h1 h2 ha => by
 obtain ⟨d, inf, hd1, hi1, hk1, hg1⟩ := hg.ax
 obtain ⟨us, hu, hr⟩ := (ha.ev hx).agg_inv
 obtain ⟨u, h3, h4⟩ := hr.get hv
 refine ⟨u, ?_, h4⟩
 simp only [execOp, ho, hu, (ha.ev hy).val_inv, Instr.index, asIntOf, run_underlying hd.ax, Sem.run_bind, Sem.run_pure, Result.andThen_ok, sizeOf, typeInfo, run_program, hi1, hk1]
 rw [if_pos hz]
 cases d <;> first | (cases hg1; done) | (simp [part, isAgg, run_underlying hd1, sizeOf, typeInfo, hi1, hk1, h3])
/-! ### Parts of strings -/
end
end Go.Proofs.YtojomcdjcpmnkaaGreat.A
namespace Go.Proofs.YtojomcdjcpmnkaaGreat.By
open Go.RowKit L A
set_option linter.unusedVariables false
set_option maxRecDepth 20000
set_option linter.unusedSimpArgs false
attribute [local irreducible] AW AQ AO
theorem bytes_snoc0 (l : List UInt8) (b : UInt8) : bytesA (l ++ [b]) = bytesA l ++ [.val (.int .u8 (b.toNat : Int))] := by simp [bytesA]
theorem ofNat_u8 (n : Nat) : UInt8.ofNat n = u8 (n : Int) := by
 unfold u8
 exact UInt8.toNat_inj.1 (by simp only [UInt8.toNat_ofNat']; omega)
theorem shr_var {n m : Nat} {z : Int} (hz : z = (m : Int)) (hm : m < 64) : ((n : Int)).fdiv (2 ^ (min z.toNat IntKind.u64.bits)) = ((n / 2 ^ m : Nat) : Int) := by
 subst hz
 have e : min ((m : Int)).toNat IntKind.u64.bits = m := by
  show min m 64 = m
  omega
 rw [e, Int.fdiv_eq_ediv_of_nonneg _ (by exact Int.le_of_lt (Int.pow_pos (by omega))), show (2 : Int) ^ m = ((2 ^ m : Nat) : Int) by rw [Int.natCast_pow]; rfl, ← Int.natCast_ediv]
set_option maxHeartbeats 4000000 in
theorem pad_fn (b : List UInt8) (hb : b.length ≤ 1000000) : Sp Tryz.prog 193 [roB b, .val (.int .i64 64)] [] (Is (roB (padB b))) := by
 refine yv Tryz.func193 _ Tryz.ntmps193 (fun w0 R0 => ?_)
 refine zx (zm ?_)
 refine zc (zD (zl (zx (zm ?_))))
 refine za ?_
 refine ww (O.appendNil rfl (by rfl) (by rfl) rfl rfl (by exact SrcA.ro TyD.ax (by (simp; done)) (Nat.le_of_ble_eq_true rfl)) (by (simp [AV.cells, AV.one, *]; done)) (by (unfold maxLen; omega)) (by omega)) ?_
 intro V1 hV1
 refine zK ?_
 intro B2
 refine AO.g ?_
 refine wB 0 10 rfl rfl ⟨Nat.le_refl _, by unfold maxLen; omega⟩ ?_
 refine xF 10 ?_
 refine AO.u ?_
 dsimp only [List.eraseIdx]
 refine zY 0 rfl rfl rfl rfl (by rfl) (by rfl) rfl rfl rfl (by exact SrcA.ro TyD.ax (by rfl) (Nat.le_of_ble_eq_true rfl)) (by rfl) (by (unfold maxLen; omega)) ?_
 intro V3 hV3
 refine zc (zD (zl (zx (yS ?_))))
 rw [show bytesA b ++ [.val (.int .u8 128)] = bytesA (b ++ [128]) from (bytes_snoc0 b 128).symm, show b.length + 1 = (b ++ [128]).length by simp]
 refine zg [(0, _), (1, _)] (fun nn E H => ∃ (k : Nat) (V : Value) (l : List UInt8), (k ≤ padZ b.length) ∧ (V.oneCell' = true) ∧ (l = b ++ [128] ++ List.replicate k 0) ∧ nn = padZ b.length - k ∧ E = [(5, .val V)] ∧ H = [.row V 5 1 l.length (bytesA l)]) _ (⟨0, _, b ++ [128], by omega, ‹_›, by simp, rfl, rfl, rfl⟩) ?_
 rintro nn E H ⟨k, V, l, hk, hV, hl, rfl, rfl, rfl⟩
 dsimp only [List.cons_append, List.nil_append]
 have hll : l.length = b.length + 1 + k := by rw [hl]; simp; omega
 have hpz := padZ_lt b.length
 refine zx (zx (zm ?_))
 refine za ?_
 refine xN ?_
 refine za ?_
 refine xq ?_
 refine za ?_
 refine za ?_
 refine xI ?_
 refine yl ?_
 refine yX (zD (zl ?_))
 refine yn (fun h1 => ?_) (fun h1 => ?_) <;> (try simp only [wN] at h1)
 ·skip
  have hk2 : k < padZ b.length := by
   by_cases g : k < padZ b.length
   ·exact g
   exfalso
   have h3 := padZ_end b.length
   rw [show padZ b.length = k by omega] at h3
   omega
  have hgu : bytesA (l ++ [0]) = bytesA l ++ [.val (.int .u8 0)] := bytes_snoc0 l 0
  have hgl : (l ++ [0]).length = l.length + 1 := by simp
  refine yN (zl (yS (zm ?_)))
  refine za ?_
  refine zK ?_
  intro B4
  refine AO.g ?_
  refine wB 0 22 rfl rfl ⟨Nat.le_refl _, by unfold maxLen; omega⟩ ?_
  refine xF 22 ?_
  refine AO.u ?_
  dsimp only [List.eraseIdx]
  refine zY 0 rfl rfl rfl rfl (by rfl) (by rfl) rfl rfl rfl (by exact SrcA.ro TyD.ax (by rfl) (Nat.le_of_ble_eq_true rfl)) (by rfl) (by (unfold maxLen; omega)) ?_
  intro V5 hV5
  refine zc (zD (y5 ?_))
  rw [show bytesA l ++ _ = _ from hgu.symm, ← hgl]
  refine zj _ _ _ (by omega) (⟨k + 1, _, l ++ [0], by omega, ‹_›, by rw [hl, List.replicate_succ', List.append_assoc (b ++ [128])], rfl, rfl, rfl⟩)
 have hk2 : k = padZ b.length := padZ_of hk (by omega)
 refine xD ?_
 refine xr ?_
 refine xA ?_
 refine yZ (zl (zx (yS ?_)))
 refine zg [(0, _), (1, _)] (fun nn E H => ∃ (j : Nat) (V : Value), (j = 0) ∧ (V.oneCell' = true) ∧ j = nn ∧ E = [(5, .val V)] ∧ H = [.row V 5 1 l.length (bytesA l)]) _ (⟨0, V, rfl, hV, rfl, rfl, rfl⟩) ?_
 rintro nn E H ⟨j, V, hj, hV, rfl, rfl, rfl⟩
 dsimp only [List.cons_append, List.nil_append]
 refine zx (zx (zm ?_))
 refine za ?_
 refine xN ?_
 refine za ?_
 refine xq ?_
 refine za ?_
 refine yl ?_
 refine wI (O.neq rfl rfl rfl (by exact bne_eq_false_iff_eq.2 (by omega))) (zD (zl ?_))
 refine yn (fun h2 => ?_) (fun h2 => ?_) <;> (try simp only [wN] at h2)
 ·skip
  exact absurd h2 (by simp)
 refine xD ?_
 refine xr ?_
 refine xA ?_
 refine yZ (zl (zx (zm ?_)))
 refine za ?_
 refine zZ ?_
 refine xh ?_
 refine wI (O.mul rfl rfl rfl (by exact wU64 (by omega))) ?_
 refine zc (zD (zl (zx (zx (zm ?_)))))
 refine zc (zD (zl (yS ?_)))
 refine zg [(6, _)] (fun nn E H => ∃ (k2 : Nat) (V : Value) (q : List UInt8), (k2 ≤ 8) ∧ (V.oneCell' = true) ∧ (q = l ++ lenTo b.length k2) ∧ (q.length ≤ l.length + 8) ∧ nn = 8 - k2 ∧ E = [(5, .val V), (7, .val (.int .i64 (7 - (k2 : Int))))] ∧ H = [.row V 5 1 q.length (bytesA q)]) _ (⟨0, V, l, by omega, hV, by simp [lenTo], by omega, rfl, rfl, rfl⟩) ?_
 rintro nn E H ⟨k2, V, q, hk3, hV, hq, hql, rfl, rfl, rfl⟩
 dsimp only [List.cons_append, List.nil_append]
 refine zx (zx (zm ?_))
 refine za ?_
 refine xR (zD (zl ?_))
 refine yn (fun h3 => ?_) (fun h3 => ?_) <;> (try simp only [wN] at h3)
 ·skip
  have hs := lenTo_step b.length (k := k2) (by omega)
  rw [ofNat_u8] at hs
  have hbn : (b.length : Int) * 8 = ((b.length * 8 : Nat) : Int) := by omega
  rw [hbn]
  refine yN (zl (zx (yS (zm ?_))))
  refine za ?_
  refine za ?_
  refine za ?_
  refine xh ?_
  refine wI (O.mul rfl rfl rfl (by exact wU64 (by omega))) ?_
  refine wI (O.shr rfl rfl rfl (by omega) (shr_var (m := 8 * (7 - k2)) (by omega) (by omega))) ?_
  refine yA ?_
  refine zK ?_
  intro B6
  refine AO.g ?_
  refine wB 0 49 rfl rfl ⟨Nat.le_refl _, by unfold maxLen; omega⟩ ?_
  refine xF 49 ?_
  refine AO.u ?_
  dsimp only [List.eraseIdx]
  refine zY 0 rfl rfl rfl rfl (by rfl) (by rfl) rfl rfl rfl (by exact SrcA.ro TyD.ax (by rfl) (Nat.le_of_ble_eq_true rfl)) (by rfl) (by (unfold maxLen; omega)) ?_
  intro V7 hV7
  refine zc (zD (y5 (zl (zm ?_))))
  refine za ?_
  refine yl ?_
  refine zc (zD ?_)
  have hgu := bytes_snoc0 q (u8 ((b.length * 8 / 2 ^ (8 * (7 - k2)) : Nat) : Int))
  have hgl : (q ++ [u8 ((b.length * 8 / 2 ^ (8 * (7 - k2)) : Nat) : Int)]).length = q.length + 1 := by simp
  rw [show bytesA q ++ _ = _ from hgu.symm, ← hgl, show 7 - (k2 : Int) - 1 = 7 - ((k2 + 1 : Nat) : Int) by omega]
  refine zj _ _ _ (by omega) (⟨k2 + 1, _, q ++ [u8 ((b.length * 8 / 2 ^ (8 * (7 - k2)) : Nat) : Int)], by omega, ‹_›, by rw [hq, hs, List.append_assoc], by (have := congrArg List.length hq; rw [List.length_append, lenTo, List.length_take] at this; omega), rfl, rfl, rfl⟩)
 obtain rfl : k2 = 8 := by omega
 have hqp : q = padB b := by rw [hq, hl, hk2, lenTo_all]; rfl
 subst hqp
 refine xD ?_
 refine xr ?_
 refine xA ?_
 refine yZ (zl (zx (zm ?_)))
 refine za ?_
 refine zc (zD (zl (y1 ?_)))
 refine AQ.g ?_
 refine z6 0 [4] ?_
 refine AQ.u ?_
 try dsimp only [List.map, List.eraseIdx, List.cons_append, List.nil_append]
 refine xK rfl rfl ⟨_, List.nil_sublist _, .nil⟩ (⟨rfl, rfl⟩)
def hTo (k q : Nat) : UInt32 := if q < k then h8 h256 q else 0
theorem hTo_step (k q : Nat) : (if q = k then h8 h256 k else hTo k q) = hTo (k + 1) q := by
 unfold hTo
 by_cases h : q = k
 ·subst h; rw [if_pos rfl, if_pos (by omega)]
 rw [if_neg h]
 by_cases h2 : q < k
 ·rw [if_pos h2, if_pos (by omega)]
 rw [if_neg h2, if_neg (by omega)]
theorem hTo_all : arK e32 8 (hTo 8) = c8 h256 := rfl
theorem hh_at {t : Nat} (h : t < 8) : IntKind.u32.wrap (((hh512.getD t 0).toNat : Int) / 4294967296) = ((h8 h256 t).toNat : Int) := by
 have key : ∀ t, t < 8 → (hh512.getD t 0).toNat / 4294967296 = (h8 h256 t).toNat := by decide +kernel
 have := key t h
 have h2 := (h8 h256 t).toNat_lt
 rw [wrap_u32]
 omega
theorem hh_get {k : Nat} (h : k < 8) {j : Nat} (hj : j = k) : (hh512.map fun a => AV.val (e64 a))[j]? = some (.val (e64 (hh512.getD k 0))) := by
 subst hj
 have hl : hh512.length = 8 := rfl
 simp [List.getD, show j < hh512.length by omega]
def outTo (s : H8) (k : Nat) : List UInt8 := (List.range k).flatMap fun i => w4 (h8 s i)
theorem outTo_step (s : H8) (k : Nat) : outTo s (k + 1) = outTo s k ++ w4 (h8 s k) := by
 unfold outTo
 rw [List.range_succ, List.flatMap_append]; simp
theorem outTo_all (s : H8) : outTo s 8 = outH s := rfl
theorem outTo_len (s : H8) : ∀ k, (outTo s k).length = 4 * k
 | 0 => rfl
 | k + 1 => by rw [outTo_step, List.length_append, outTo_len s k]; show 4 * k + 4 = _; omega
set_option maxHeartbeats 4000000 in
theorem sum_fn (b : List UInt8) (hb : b.length ≤ 1000000) : Sp Tryz.prog 176 [roB b] [] (Is (roB (sha b))) := by
 refine yv Tryz.func176 _ Tryz.ntmps176 (fun w0 R0 => ?_)
 refine zx (zm ?_)
 refine zc (zD (zl (zx (zm ?_))))
 refine zd ?_
 intro B1
 refine zD (zl (zx (zx (zm ?_))))
 refine wI (xl rfl Tryz.func192 rfl rfl rfl initial_fn) ?_
 refine za (zD (zl (yS ?_)))
 refine zg [(0, _), (3, _), (11, _)] (fun nn E H => ∃ (k : Nat), (k ≤ 8) ∧ nn = 8 - k ∧ E = [(12, .val (.int .i64 (k : Int)))] ∧ H = [.blk B1 207 8 (arK e32 8 (hTo k))]) _ (⟨0, by omega, rfl, rfl, rfl⟩) ?_
 rintro nn E H ⟨k, hk, rfl, rfl, rfl⟩
 dsimp only [List.cons_append, List.nil_append]
 refine zx (zm ?_)
 refine zH (zD (zl (zx ?_)))
 refine yn (fun hlt => ?_) (fun hlt => ?_) <;> (try simp only [wN] at hlt)
 ·skip
  have hg1 : ∀ j, j = k → (hh512.map fun a => AV.val (e64 a))[j]? = some (.val (e64 (hh512.getD k 0))) := fun j hj => hh_get (by omega) hj
  have hs1 : ∀ j, j = k → splice (arK e32 8 (hTo k)) j [.val (e32 (h8 h256 k))] = arK e32 8 (hTo (k + 1)) := fun j hj => by
   rw [arK_set (by omega : k < 8) _ hj]
   exact arK_congr fun q _ => hTo_step k q
  have hln : (arK e32 8 (hTo k)).length = 8 := arK_len _ _
  have hc := hh_at (t := k) (by omega)
  generalize hh512.getD k 0 = x at *
  generalize h8 h256 k = y at *
  refine yN (zl (zx (yS (zx (zm ?_)))))
  refine za ?_
  refine wI (O.index1 rfl rfl rfl ⟨(by omega), (by omega)⟩ (by exact hg1 _ (by omega))) ?_
  refine zc ?_
  refine zc (zD (zl (zm ?_)))
  refine za ?_
  refine za ?_
  refine wI (xU 32 4294967296) ?_
  refine wI (O.conv rfl rfl hc) ?_
  refine xL ?_
  refine AO.store (i := 0) rfl rfl rfl rfl rfl rfl (by rfl) (by rfl) (by exact Nat.ble_eq_true_of_le (by rw [hln]; omega)) (by exact hs1 _ (by omega)) (by (dsimp only [List.set, List.append, List.cons_append, List.nil_append, AV.cells, splice, List.take, List.drop, Nat.reduceAdd]; done)) (zD (y5 (zl (zm ?_))))
  refine zr ?_
  refine za (zD ?_)
  refine zj _ _ _ (by omega) (⟨k + 1, by omega, rfl, rfl, rfl⟩)
 obtain rfl : k = 8 := by omega
 rw [hTo_all]
 obtain ⟨p, hp⟩ : ∃ p, p = padB b := ⟨_, rfl⟩
 have hpm : p.length % 64 = 0 := by rw [hp]; exact padB_len b
 have hpl : p.length ≤ 2000000 := by
  have := padZ_lt b.length
  rw [hp, padB]
  simp only [List.length_append, List.length_replicate, List.length_singleton, show (lenB b.length).length = 8 from rfl]; omega
 obtain ⟨m, hm⟩ : ∃ m, 64 * m = p.length := ⟨p.length / 64, by omega⟩
 refine xD ?_
 refine xr ?_
 refine xA ?_
 refine yZ (zl (zx (zm ?_)))
 refine za ?_
 refine wI (xl rfl Tryz.func193 rfl rfl rfl (pad_fn b hb)) ?_
 refine zc (zD (zl (zx (zx (zm ?_)))))
 refine zc (zD (zl (yS ?_)))
 rw [← hp]
 refine zg [(3, _), (6, _)] (fun nn E H => ∃ (k : Nat), (k ≤ m) ∧ nn = m - k ∧ E = [(7, .val (.int .i64 ((64 * k : Nat) : Int)))] ∧ H = [.blk B1 207 8 (c8 (blocksH p k))]) _ (⟨0, by omega, rfl, rfl, rfl⟩) ?_
 rintro nn E H ⟨k, hk, rfl, rfl, rfl⟩
 dsimp only [List.cons_append, List.nil_append]
 refine zx (zx (zm ?_))
 refine za ?_
 refine za ?_
 refine zZ ?_
 refine zH (zD (zl ?_))
 refine yn (fun hlt => ?_) (fun hlt => ?_) <;> (try simp only [wN] at hlt)
 ·skip
  obtain ⟨bk, hbk⟩ : ∃ bk, bk = (p.drop (64 * k)).take 64 := ⟨_, rfl⟩
  have hbl : bk.length = 64 := by rw [hbk, List.length_take, List.length_drop]; omega
  have hpart : ((bytesA p).drop (64 * k * 1)).take (bk.length * 1) = bytesA bk := by rw [bytesA_part rfl rfl, hbl, hbk]
  have hst : blocksH p (k + 1) = blockH (blocksH p k) bk := by rw [hbk]; rfl
  refine yN (zl (zx (yS ?_)))
  refine yj 7 ?_
  simp only [List.take_succ_cons, List.take_zero, List.drop_succ_cons, List.drop_zero]
  refine wJ (O.loadK rfl rfl (by repeat (exact List.Mem.head _)) (by (dsimp only [List.set, List.append, List.cons_append, List.nil_append, AV.cells, splice, List.take, List.drop, Nat.reduceAdd]; done)) (by rfl)) ?_
  refine zv ?_
  refine zv ?_
  refine zv ?_
  refine y2 ?_
  refine wJ (O.sliceLHm (m := bk.length) rfl rfl rfl rfl (l := 64 * k) (h := 64 * k + 64) (by omega) (by omega) (by omega) (by omega) (by omega) (by exact hpart)) ?_
  refine wJ (xl rfl Tryz.func194 rfl rfl rfl (block256_fn (blocksH p k) bk hbl)) ?_
  refine wg ?_
  simp only [chosen, List.nil_append, List.cons_append, List.append_nil]
  refine yp 0 rfl rfl rfl rfl rfl rfl (zD (y5 (zl (zm ?_))))
  refine za ?_
  refine zr ?_
  refine zc (zD ?_)
  rw [← hst, show ((64 * k : Nat) : Int) + 64 = ((64 * (k + 1) : Nat) : Int) by omega]
  refine zj _ _ _ (by omega) (⟨k + 1, by omega, rfl, rfl, rfl⟩)
 obtain rfl : k = m := by omega
 have hsh := sha_of b hp hm
 generalize blocksH p k = hf at *
 refine xD ?_
 refine xr ?_
 refine xA ?_
 refine yZ (zl (zx (zm ?_)))
 refine zc (zD (zl (zx (zx (zm ?_)))))
 refine wI (O.loadK rfl rfl (by repeat (exact List.Mem.head _)) (by (dsimp only [List.set, List.append, List.cons_append, List.nil_append, AV.cells, splice, List.take, List.drop, Nat.reduceAdd]; done)) (by rfl)) ?_
 refine za (zD (zl (yS ?_)))
 refine AW.g ?_
 refine G.nilRow 5 1 ?_
 refine AW.u ?_
 refine zg [(37, _)] (fun nn E H => ∃ (i : Nat) (V : Value), (i ≤ 8) ∧ (V.oneCell' = true) ∧ nn = 8 - i ∧ E = [(8, .val V), (38, .val (.int .i64 (i : Int)))] ∧ H = [.row V 5 1 (outTo hf i).length (bytesA (outTo hf i))]) _ (⟨0, _, by omega, rfl, rfl, rfl, rfl⟩) ?_
 rintro nn E H ⟨i, V, hi, hV, rfl, rfl, rfl⟩
 dsimp only [List.cons_append, List.nil_append]
 have hol := outTo_len hf i
 refine zx (zm ?_)
 refine zH (zD (zl (zx ?_)))
 refine yn (fun hlt2 => ?_) (fun hlt2 => ?_) <;> (try simp only [wN] at hlt2)
 ·skip
  have hg2 : ∀ j, j = i → (c8 hf)[j]? = some (.val (e32 (h8 hf i))) := fun j hj => c8_get hf (by omega) hj
  have hgu : bytesA (outTo hf i) ++ [.val (.int .u8 (((h8 hf i) >>> UInt32.ofNat 24).toUInt8.toNat : Int)), .val (.int .u8 (((h8 hf i) >>> UInt32.ofNat 16).toUInt8.toNat : Int)), .val (.int .u8 (((h8 hf i) >>> UInt32.ofNat 8).toUInt8.toNat : Int)), .val (.int .u8 ((h8 hf i).toUInt8.toNat : Int))] = bytesA (outTo hf (i + 1)) := by
   rw [outTo_step]; simp [bytesA, w4]
  have hgl : (outTo hf (i + 1)).length = (outTo hf i).length + 4 := by rw [outTo_len, outTo_len]; omega
  refine yN (zl (zx (yS (zx (zm ?_)))))
  refine wI (O.index1 rfl rfl rfl ⟨(by omega), (by omega)⟩ (by exact hg2 _ (by omega))) ?_
  refine zc (zD (zl (zm ?_)))
  refine za ?_
  refine za ?_
  refine wI (O.shr rfl rfl rfl (by omega) (shr32' (n := 24) rfl (by decide))) ?_
  refine wI (O.conv rfl rfl conv32to8) ?_
  refine za ?_
  refine wI (O.shr rfl rfl rfl (by omega) (shr32' (n := 16) rfl (by decide))) ?_
  refine wI (O.conv rfl rfl conv32to8) ?_
  refine za ?_
  refine wI (O.shr rfl rfl rfl (by omega) (shr32' (n := 8) rfl (by decide))) ?_
  refine wI (O.conv rfl rfl conv32to8) ?_
  refine za ?_
  refine wI (O.conv rfl rfl conv32to8) ?_
  refine yD ?_
  intro B2
  refine AO.g ?_
  refine wB 0 53 rfl rfl ⟨Nat.le_refl _, by unfold maxLen; omega⟩ ?_
  refine xF 53 ?_
  refine AO.u ?_
  dsimp only [List.eraseIdx]
  refine AO.append' (i := 0) rfl rfl rfl rfl (by rfl) (by rfl) rfl rfl rfl (by exact SrcA.ro TyD.ax (by rfl) (Nat.le_of_ble_eq_true rfl)) (by rfl) (by (unfold maxLen; omega)) (by omega) (by (dsimp only [List.set, List.append, List.cons_append, List.nil_append, AV.cells, splice, List.take, List.drop, Nat.reduceAdd]; done)) (fun _ => by (dsimp only [List.set]; done)) ?_
  intro V3 hV3
  refine zc (zD (y5 (zl (zm ?_))))
  refine zr ?_
  refine za (zD ?_)
  rw [show bytesA (outTo hf i) ++ _ = _ from hgu, ← hgl]
  refine zj _ _ _ (by omega) (⟨i + 1, _, by omega, ‹_›, rfl, rfl, rfl⟩)
 obtain rfl : i = 8 := by omega
 rw [outTo_all, hsh]
 refine xD ?_
 refine xr ?_
 refine xA ?_
 refine yZ (zl (zx (zm ?_)))
 refine za ?_
 refine zc (zD (zl (y1 ?_)))
 refine AQ.g ?_
 refine z6 0 [2] ?_
 refine AQ.u ?_
 try dsimp only [List.map, List.eraseIdx, List.cons_append, List.nil_append]
 refine xK rfl rfl ⟨_, List.nil_sublist _, .nil⟩ (⟨rfl, rfl⟩)
end Go.Proofs.YtojomcdjcpmnkaaGreat.By

namespace Go.Proofs.YtojomcdjcpmnkaaGreat.By
open Go.RowKit L A
set_option linter.unusedVariables false
set_option maxRecDepth 20000
set_option linter.unusedSimpArgs false
attribute [local irreducible] AW AQ AO
theorem copyR_fn (l : List UInt8) (hl : l.length ≤ 1000000) : Sp Tryz.prog 69 [roB l] [] (NewRow 5 1 l.length (bytesA l)) := by
 refine yv Tryz.func69 _ Tryz.ntmps69 (fun w0 R0 => ?_)
 refine zx (zm ?_)
 refine zc (zD (zl (zx (zm ?_))))
 refine za ?_
 refine ww (O.appendNil rfl (by rfl) (by rfl) rfl rfl (by exact SrcA.ro TyD.ax (by (simp; done)) (Nat.le_of_ble_eq_true rfl)) (by (simp [AV.cells, AV.one, *]; done)) (by (unfold maxLen; omega)) (by omega)) ?_
 intro V1 hV1
 refine zc (zD (zl (y1 ?_)))
 refine xK rfl rfl ⟨_, by repeat (first | exact List.Sublist.slnil | refine List.Sublist.cons_cons _ ?_), List.Perm.refl _⟩ (⟨_, rfl, ‹_›, rfl⟩)
theorem copiedR_fn (l : List UInt8) (hl : l.length ≤ 1000000) : Sp Tryz.prog 108 [roB l] [] (NewRow 5 1 l.length (bytesA l)) := by
 refine yv Tryz.func108 _ Tryz.ntmps108 (fun w0 R0 => ?_)
 refine zx (zm ?_)
 refine zc (zD (zl (zx (zm ?_))))
 refine za ?_
 refine ww (O.appendNil rfl (by rfl) (by rfl) rfl rfl (by exact SrcA.ro TyD.ax (by (simp; done)) (Nat.le_of_ble_eq_true rfl)) (by (simp [AV.cells, AV.one, *]; done)) (by (unfold maxLen; omega)) (by omega)) ?_
 intro V1 hV1
 refine zc (zD (zl (y1 ?_)))
 refine xK rfl rfl ⟨_, by repeat (first | exact List.Sublist.slnil | refine List.Sublist.cons_cons _ ?_), List.Perm.refl _⟩ (⟨_, rfl, ‹_›, rfl⟩)
theorem nF_start (c id : List UInt8) (piv : Int) (q : Nat) : (if q = 0 then c.getD 0 0 ^^^ u8 (id.length : Int) else c.getD q 0) = nF c id piv 0 0 q := by
 unfold nF
 rw [if_neg (show ¬(13 - 0 ≤ q ∧ q < 13) by omega), if_neg (show ¬(8 - id.length ≤ q ∧ q < 8 - id.length + 0) by omega)]
 by_cases h : q = 0
 ·subst h; simp
 simp [h]
theorem bytes_fn13 {c : List UInt8} (h : c.length = 13) : bytesA c = arB 13 (fun q => c.getD q 0) := by
 rw [arB]
 congr 1
 apply List.ext_getElem
 ·rw [fnB_len, h]
 intro i h1 h2
 simp [fnB, h1]
theorem shr_piv {piv : Int} {i : Nat} {z : Int} (hz : z = 8 * (i : Int)) (hi : i < 5) : piv.fdiv (2 ^ (min z.toNat IntKind.i64.bits)) = piv / 2 ^ (8 * i) := by
 subst hz
 have e : min (8 * (i : Int)).toNat IntKind.i64.bits = 8 * i := by
  show min _ 64 = _
  omega
 rw [e, Int.fdiv_eq_ediv_of_nonneg _ (by exact Int.le_of_lt (Int.pow_pos (by omega)))]
theorem nonceR_1 {c id : List UInt8} {piv : Int} (h : c.length ≠ 13 ∨ 7 < id.length) : nonceR c id piv = ([], 1) := if_pos h
theorem nonceR_2 {c id : List UInt8} {piv : Int} (h : ¬(c.length ≠ 13 ∨ 7 < id.length)) (h2 : piv < 0 ∨ 1099511627775 < piv) : nonceR c id piv = ([], 8) := (if_neg h).trans (if_pos h2)
theorem nonceR_3 {c id : List UInt8} {piv : Int} (h : ¬(c.length ≠ 13 ∨ 7 < id.length)) (h2 : ¬(piv < 0 ∨ 1099511627775 < piv)) : nonceR c id piv = (nonceB c id piv, 0) := (if_neg h).trans (if_neg h2)
abbrev resN (r : List UInt8 × Int) : AV := .tup [roB r.1, .val (.int .i64 r.2)]
set_option maxHeartbeats 4000000 in
theorem rnonce_fn (c id : List UInt8) (piv : Int) (hcl : c.length ≤ 1000000) : Sp Tryz.prog 66 [roB c, roB id, .val (.int .i64 piv)] [] (Is (resN (nonceR c id piv))) := by
 refine yv Tryz.func66 _ Tryz.ntmps66 (fun w0 R0 => ?_)
 refine zx (zm ?_)
 refine zc ?_
 refine zc (zD (zl (zx (zx (zm ?_)))))
 refine za ?_
 refine zZ ?_
 refine yX ?_
 refine za ?_
 refine yu ?_
 refine AO.opG rfl rfl rfl (fun hp => yL 15 rfl (by exact hp)) ?_
 refine AO.opG rfl rfl rfl (fun hp => yM 16 rfl (by exact hp)) ?_
 refine zB (zD (zl ?_))
 refine yn (fun h1 => ?_) (fun h1 => ?_) <;> (try simp only [wN] at h1)
 ·skip
  rw [nonceR_1 (by omega)]
  refine zx (zm ?_)
  refine zc ?_
  refine zc (zD (zl (y1 (xi ?_))))
  refine FnQ.coe yx ye (⟨rfl, rfl⟩)
 have hc : c.length = 13 := by omega
 have hid : id.length ≤ 7 := by omega
 refine yN (zl (zx (zx (zm ?_))))
 refine za ?_
 refine zH ?_
 refine za ?_
 refine yu ?_
 refine AO.opG rfl rfl rfl (fun hp => yM 22 rfl (by exact hp)) ?_
 refine zB (zD (zl ?_))
 refine yn (fun h2 => ?_) (fun h2 => ?_) <;> (try simp only [wN] at h2)
 ·skip
  rw [nonceR_2 (by omega) (by omega)]
  refine zx (zm ?_)
  refine zc ?_
  refine zc (zD (zl (y1 (xi ?_))))
  refine FnQ.coe yx ye (⟨rfl, rfl⟩)
 rw [nonceR_3 (by omega) (by omega)]
 have hb0 := bytes_fn13 hc
 have hst0 : ∀ j, j = 0 → splice (arB 13 (fun q => c.getD q 0)) j [.val (.int .u8 (((c.getD 0 0) ^^^ u8 (id.length : Int)).toNat : Int))] = arB 13 (nF c id piv 0 0) := fun j hj => by
  rw [arB_set (by omega) _ hj]
  exact arB_congr fun q _ => nF_start c id piv q
 have hge0 : ∀ j, j = 0 → (arB 13 (fun q => c.getD q 0))[j]? = some (.val (.int .u8 (((c.getD 0 0)).toNat : Int))) := fun j hj => arB_get (by omega) hj
 have hal : ∀ f, (arB 13 f).length = 13 := fun f => arB_len _ _
 have hv0 : ∀ f q, q < 13 → (arB 13 f)[q]? = some (.val (.int .u8 ((f q).toNat : Int))) := fun f q hq => arB_get hq rfl
 refine yN (zl (zx (zm ?_)))
 refine za ?_
 refine ww (xl rfl Tryz.func69 rfl rfl rfl (copyR_fn _ (by omega))) ?_
 intro V1 hV1
 refine zc ?_
 rw [hb0, hc]
 refine AO.g ?_
 refine G.openRow 0 rfl (by omega) (fun b8 cap8 hc1 hc2 hxs hVe => ?_)
 subst hVe
 dsimp only [List.set]
 refine AO.u (zD (zl (zx (zm ?_))))
 refine za ?_
 refine wD ?_
 refine wI (O.load rfl rfl (by repeat (exact List.Mem.head _)) (by exact hge0 _ (by omega))) ?_
 refine za ?_
 refine zZ ?_
 refine yA ?_
 refine wv ?_
 refine wD ?_
 refine yf 0 rfl rfl rfl rfl rfl rfl (by rfl) (by rfl) (Nat.ble_eq_true_of_le (by rw [hal]; omega)) (by exact hst0 _ (by omega)) (zD (zl (zx (zx (zm ?_)))))
 refine za ?_
 refine zZ ?_
 refine za (zD (zl (yS ?_)))
 refine zg [(1, _), (2, _), (8, _), (36, _)] (fun nn E H => ∃ (i : Nat), (i ≤ id.length) ∧ nn = id.length - i ∧ E = [(37, .val (.int .i64 (i : Int)))] ∧ H = [.blk b8 5 (cap8 * 1) (arB 13 (nF c id piv i 0))]) _ (⟨0, by omega, rfl, rfl, rfl⟩) ?_
 rintro nn E H ⟨i, hi, rfl, rfl, rfl⟩
 dsimp only [List.cons_append, List.nil_append]
 refine zx (zm ?_)
 refine zH (zD (zl (zx ?_)))
 refine yn (fun h3 => ?_) (fun h3 => ?_) <;> (try simp only [wN] at h3)
 ·skip
  have hil : i < id.length := by omega
  have hge : ∀ j, j = 8 - id.length + i → (arB 13 (nF c id piv i 0))[j]? = some (.val (.int .u8 ((nF c id piv i 0 (8 - id.length + i)).toNat : Int))) := fun j hj => arB_get (by omega) hj
  have hst : ∀ j, j = 8 - id.length + i → splice (arB 13 (nF c id piv i 0)) j [.val (.int .u8 ((nF c id piv i 0 (8 - id.length + i) ^^^ bt id i).toNat : Int))] = arB 13 (nF c id piv (i + 1) 0) := fun j hj => by
   rw [arB_set (by omega) _ hj]
   exact arB_congr fun q _ => nF_id hid hil q
  refine yN (zl (zx (yS (zx (zm ?_)))))
  refine za ?_
  refine zc (zD (zl ?_))
  refine yj 14 ?_
  simp only [List.take_succ_cons, List.take_zero, List.drop_succ_cons, List.drop_zero]
  refine zv ?_
  refine zv ?_
  refine wJ (xH rfl rfl) ?_
  refine xc ?_
  refine zv ?_
  refine y2 ?_
  refine xQ ?_
  refine wJ (O.load rfl rfl (by repeat (exact List.Mem.head _)) (by exact hge _ (by omega))) ?_
  refine zv ?_
  refine zv ?_
  refine xx ?_
  refine wJ (O.loadR rfl rfl (by exact bt_at hil (by omega))) ?_
  refine xt ?_
  refine xQ ?_
  refine wg ?_
  simp only [chosen, List.nil_append, List.cons_append, List.append_nil]
  refine yf 0 rfl rfl rfl rfl rfl rfl (by rfl) (by rfl) (Nat.ble_eq_true_of_le (by rw [hal]; omega)) (by exact hst _ (by omega)) (zD (y5 (zl (zm ?_))))
  refine zr ?_
  refine za (zD ?_)
  refine zj _ _ _ (by omega) (⟨i + 1, by omega, rfl, rfl, rfl⟩)
 obtain rfl : i = id.length := by omega
 refine xD ?_
 refine xr ?_
 refine xA ?_
 refine yZ (zl (zx (zx (zm ?_))))
 refine zc (zD (zl (yS ?_)))
 refine zg [(2, _), (8, _)] (fun nn E H => ∃ (i : Nat), (i ≤ 5) ∧ nn = 5 - i ∧ E = [(10, .val (.int .i64 (i : Int)))] ∧ H = [.blk b8 5 (cap8 * 1) (arB 13 (nF c id piv id.length i))]) _ (⟨0, by omega, rfl, rfl, rfl⟩) ?_
 rintro nn E H ⟨i, hi, rfl, rfl, rfl⟩
 dsimp only [List.cons_append, List.nil_append]
 refine zx (zx (zm ?_))
 refine za ?_
 refine zH (zD (zl ?_))
 refine yn (fun h4 => ?_) (fun h4 => ?_) <;> (try simp only [wN] at h4)
 ·skip
  have hge : ∀ j, j = 12 - i → (arB 13 (nF c id piv id.length i))[j]? = some (.val (.int .u8 ((nF c id piv id.length i (12 - i)).toNat : Int))) := fun j hj => arB_get (by omega) hj
  have hst : ∀ j, j = 12 - i → splice (arB 13 (nF c id piv id.length i)) j [.val (.int .u8 ((nF c id piv id.length i (12 - i) ^^^ u8 (piv / 2 ^ (8 * i))).toNat : Int))] = arB 13 (nF c id piv id.length (i + 1)) := fun j hj => by
   rw [arB_set (by omega) _ hj]
   exact arB_congr fun q _ => nF_piv (by omega) q
  refine yN (zl (zx (yS ?_)))
  refine yj 12 ?_
  simp only [List.take_succ_cons, List.take_zero, List.drop_succ_cons, List.drop_zero]
  refine zv ?_
  refine zv ?_
  refine xc ?_
  refine xQ ?_
  refine wJ (O.load rfl rfl (by repeat (exact List.Mem.head _)) (by exact hge _ (by omega))) ?_
  refine zv ?_
  refine zv ?_
  refine yH ?_
  refine wJ (O.shr rfl rfl rfl (by omega) (shr_piv (by rfl) (by omega))) ?_
  refine wJ (O.conv rfl rfl wU8any) ?_
  refine xt ?_
  refine xQ ?_
  refine wg ?_
  simp only [chosen, List.nil_append, List.cons_append, List.append_nil]
  refine yf 0 rfl rfl rfl rfl rfl rfl (by rfl) (by rfl) (Nat.ble_eq_true_of_le (by rw [hal]; omega)) (by exact hst _ (by omega)) (zD (y5 (zl (zm ?_))))
  refine za ?_
  refine zr ?_
  refine zc (zD ?_)
  refine zj _ _ _ (by omega) (⟨i + 1, by omega, rfl, rfl, rfl⟩)
 obtain rfl : i = 5 := by omega
 refine xD ?_
 refine xr ?_
 refine xA ?_
 refine yZ (zl (zx (zm ?_)))
 refine za ?_
 refine zc ?_
 refine zc (zD (zl (y1 ?_)))
 refine AQ.g ?_
 refine G.closeRow (b := b8) (sz := 1) (n := 13) (cap := cap8) 0 rfl (hal _) rfl hc1 hc2 ?_
 refine AQ.u ?_
 dsimp only [List.set]
 refine AQ.g ?_
 refine z6 0 [6] ?_
 refine AQ.u ?_
 try dsimp only [List.map, List.eraseIdx, List.cons_append, List.nil_append]
 refine AQ.ret2 rfl rfl rfl ⟨_, List.nil_sublist _, .nil⟩ (⟨by rw [resN, nonceB, roB_fnB]; rfl, rfl⟩)
set_option maxHeartbeats 4000000 in
theorem nonce_fn (c id : List UInt8) (piv : Int) (hcl : c.length ≤ 1000000) : Sp Tryz.prog 59 [roB c, roB id, .val (.int .i64 piv)] [] (Is (resN (nonceR c id piv))) := by
 refine yv Tryz.func59 _ Tryz.ntmps59 (fun w0 R0 => ?_)
 refine zx (zm ?_)
 refine zc ?_
 refine zc (zD (zl (zx (zx (zm ?_)))))
 refine za ?_
 refine zZ ?_
 refine yX ?_
 refine za ?_
 refine yu ?_
 refine AO.opG rfl rfl rfl (fun hp => yL 16 rfl (by exact hp)) ?_
 refine AO.opG rfl rfl rfl (fun hp => yM 17 rfl (by exact hp)) ?_
 refine zB (zD (zl ?_))
 refine yn (fun h1 => ?_) (fun h1 => ?_) <;> (try simp only [wN] at h1)
 ·skip
  rw [nonceR_1 (by omega)]
  refine zx (zm ?_)
  refine zc ?_
  refine zc (zD (zl (y1 (xi ?_))))
  refine FnQ.coe yx ye (⟨rfl, rfl⟩)
 have hc : c.length = 13 := by omega
 have hid : id.length ≤ 7 := by omega
 refine yN (zl (zx (zx (zm ?_))))
 refine za ?_
 refine zH ?_
 refine za ?_
 refine yu ?_
 refine AO.opG rfl rfl rfl (fun hp => yM 23 rfl (by exact hp)) ?_
 refine zB (zD (zl ?_))
 refine yn (fun h2 => ?_) (fun h2 => ?_) <;> (try simp only [wN] at h2)
 ·skip
  rw [nonceR_2 (by omega) (by omega)]
  refine zx (zm ?_)
  refine zc ?_
  refine zc (zD (zl (y1 (xi ?_))))
  refine FnQ.coe yx ye (⟨rfl, rfl⟩)
 rw [nonceR_3 (by omega) (by omega)]
 have hb0 := bytes_fn13 hc
 have hst0 : ∀ j, j = 0 → splice (arB 13 (fun q => c.getD q 0)) j [.val (.int .u8 (((c.getD 0 0) ^^^ u8 (id.length : Int)).toNat : Int))] = arB 13 (nF c id piv 0 0) := fun j hj => by
  rw [arB_set (by omega) _ hj]
  exact arB_congr fun q _ => nF_start c id piv q
 have hge0 : ∀ j, j = 0 → (arB 13 (fun q => c.getD q 0))[j]? = some (.val (.int .u8 (((c.getD 0 0)).toNat : Int))) := fun j hj => arB_get (by omega) hj
 have hal : ∀ f, (arB 13 f).length = 13 := fun f => arB_len _ _
 have hv0 : ∀ f q, q < 13 → (arB 13 f)[q]? = some (.val (.int .u8 ((f q).toNat : Int))) := fun f q hq => arB_get hq rfl
 refine yN (zl (zx (zm ?_)))
 refine za ?_
 refine ww (xl rfl Tryz.func108 rfl rfl rfl (copiedR_fn _ (by omega))) ?_
 intro V1 hV1
 refine zc ?_
 rw [hb0, hc]
 refine AO.g ?_
 refine G.openRow 0 rfl (by omega) (fun b8 cap8 hc1 hc2 hxs hVe => ?_)
 subst hVe
 dsimp only [List.set]
 refine AO.u (zD (zl (zx (zm ?_))))
 refine za ?_
 refine wD ?_
 refine wI (O.load rfl rfl (by repeat (exact List.Mem.head _)) (by exact hge0 _ (by omega))) ?_
 refine za ?_
 refine zZ ?_
 refine yA ?_
 refine wv ?_
 refine wD ?_
 refine yf 0 rfl rfl rfl rfl rfl rfl (by rfl) (by rfl) (Nat.ble_eq_true_of_le (by rw [hal]; omega)) (by exact hst0 _ (by omega)) (zD (zl (zx (zx (zm ?_)))))
 refine za ?_
 refine zZ ?_
 refine za (zD (zl (yS ?_)))
 refine zg [(1, _), (2, _), (8, _), (36, _), (37, _)] (fun nn E H => ∃ (i : Nat), (i ≤ id.length) ∧ nn = id.length - i ∧ E = [(38, .val (.int .i64 (i : Int)))] ∧ H = [.blk b8 5 (cap8 * 1) (arB 13 (nF c id piv i 0))]) _ (⟨0, by omega, rfl, rfl, rfl⟩) ?_
 rintro nn E H ⟨i, hi, rfl, rfl, rfl⟩
 dsimp only [List.cons_append, List.nil_append]
 refine zx (zm ?_)
 refine zH (zD (zl (zx ?_)))
 refine yn (fun h3 => ?_) (fun h3 => ?_) <;> (try simp only [wN] at h3)
 ·skip
  have hil : i < id.length := by omega
  have hge : ∀ j, j = 8 - id.length + i → (arB 13 (nF c id piv i 0))[j]? = some (.val (.int .u8 ((nF c id piv i 0 (8 - id.length + i)).toNat : Int))) := fun j hj => arB_get (by omega) hj
  have hst : ∀ j, j = 8 - id.length + i → splice (arB 13 (nF c id piv i 0)) j [.val (.int .u8 ((nF c id piv i 0 (8 - id.length + i) ^^^ bt id i).toNat : Int))] = arB 13 (nF c id piv (i + 1) 0) := fun j hj => by
   rw [arB_set (by omega) _ hj]
   exact arB_congr fun q _ => nF_id hid hil q
  refine yN (zl (zx (yS (zx (zm ?_)))))
  refine za ?_
  refine yh ?_
  refine wI (O.loadR rfl rfl (by exact bt_at hil (by omega))) ?_
  refine zc ?_
  refine zc (zD (zl (zm ?_)))
  refine za ?_
  refine za ?_
  refine zZ ?_
  refine yl ?_
  refine za ?_
  refine zr ?_
  refine wD ?_
  refine wI (O.load rfl rfl (by repeat (exact List.Mem.head _)) (by exact hge _ (by omega))) ?_
  refine za ?_
  refine wv ?_
  refine wD ?_
  refine yf 0 rfl rfl rfl rfl rfl rfl (by rfl) (by rfl) (Nat.ble_eq_true_of_le (by rw [hal]; omega)) (by exact hst _ (by omega)) (zD (y5 (zl (zm ?_))))
  refine zr ?_
  refine za (zD ?_)
  refine zj _ _ _ (by omega) (⟨i + 1, by omega, rfl, rfl, rfl⟩)
 obtain rfl : i = id.length := by omega
 refine xD ?_
 refine xr ?_
 refine xA ?_
 refine yZ (zl (zx (zx (zm ?_))))
 refine zc (zD (zl (yS ?_)))
 refine zg [(2, _), (8, _)] (fun nn E H => ∃ (i : Nat), (i ≤ 5) ∧ nn = 5 - i ∧ E = [(11, .val (.int .i64 (i : Int)))] ∧ H = [.blk b8 5 (cap8 * 1) (arB 13 (nF c id piv id.length i))]) _ (⟨0, by omega, rfl, rfl, rfl⟩) ?_
 rintro nn E H ⟨i, hi, rfl, rfl, rfl⟩
 dsimp only [List.cons_append, List.nil_append]
 refine zx (zx (zm ?_))
 refine za ?_
 refine zH (zD (zl ?_))
 refine yn (fun h4 => ?_) (fun h4 => ?_) <;> (try simp only [wN] at h4)
 ·skip
  have hge : ∀ j, j = 12 - i → (arB 13 (nF c id piv id.length i))[j]? = some (.val (.int .u8 ((nF c id piv id.length i (12 - i)).toNat : Int))) := fun j hj => arB_get (by omega) hj
  have hst : ∀ j, j = 12 - i → splice (arB 13 (nF c id piv id.length i)) j [.val (.int .u8 ((nF c id piv id.length i (12 - i) ^^^ u8 (piv / 2 ^ (8 * i))).toNat : Int))] = arB 13 (nF c id piv id.length (i + 1)) := fun j hj => by
   rw [arB_set (by omega) _ hj]
   exact arB_congr fun q _ => nF_piv (by omega) q
  refine yN (zl (zx (yS ?_)))
  refine yj 12 ?_
  simp only [List.take_succ_cons, List.take_zero, List.drop_succ_cons, List.drop_zero]
  refine zv ?_
  refine zv ?_
  refine xc ?_
  refine xQ ?_
  refine wJ (O.load rfl rfl (by repeat (exact List.Mem.head _)) (by exact hge _ (by omega))) ?_
  refine zv ?_
  refine zv ?_
  refine yH ?_
  refine wJ (O.shr rfl rfl rfl (by omega) (shr_piv (by rfl) (by omega))) ?_
  refine wJ (O.conv rfl rfl wU8any) ?_
  refine xt ?_
  refine xQ ?_
  refine wg ?_
  simp only [chosen, List.nil_append, List.cons_append, List.append_nil]
  refine yf 0 rfl rfl rfl rfl rfl rfl (by rfl) (by rfl) (Nat.ble_eq_true_of_le (by rw [hal]; omega)) (by exact hst _ (by omega)) (zD (y5 (zl (zm ?_))))
  refine za ?_
  refine zr ?_
  refine zc (zD ?_)
  refine zj _ _ _ (by omega) (⟨i + 1, by omega, rfl, rfl, rfl⟩)
 obtain rfl : i = 5 := by omega
 refine xD ?_
 refine xr ?_
 refine xA ?_
 refine yZ (zl (zx (zm ?_)))
 refine za ?_
 refine zc ?_
 refine zc (zD (zl (y1 ?_)))
 refine AQ.g ?_
 refine G.closeRow (b := b8) (sz := 1) (n := 13) (cap := cap8) 0 rfl (hal _) rfl hc1 hc2 ?_
 refine AQ.u ?_
 dsimp only [List.set]
 refine AQ.g ?_
 refine z6 0 [6] ?_
 refine AQ.u ?_
 try dsimp only [List.map, List.eraseIdx, List.cons_append, List.nil_append]
 refine AQ.ret2 rfl rfl rfl ⟨_, List.nil_sublist _, .nil⟩ (⟨by rw [resN, nonceB, roB_fnB]; rfl, rfl⟩)
end Go.Proofs.YtojomcdjcpmnkaaGreat.By

namespace Go.Proofs.YtojomcdjcpmnkaaGreat.By
open Go.RowKit L A
set_option linter.unusedVariables false
set_option maxRecDepth 20000
set_option linter.unusedSimpArgs false
attribute [local irreducible] AW AQ AO

/-- The four bits and the extension of a number. -/
def ext (n : Int) : Int × List UInt8 := if n < 13 then (n, []) else if n < 269 then (13, [u8 (n - 13)]) else (14, [u8 ((n - 269) / 256), u8 (n - 269)])
theorem ext_le (n : Int) (h : 0 ≤ n) : 0 ≤ (ext n).1 ∧ (ext n).1 ≤ 14 := by unfold ext; (repeat' split) <;> simp <;> omega
theorem ext_len (n : Int) : (ext n).2.length ≤ 2 := by unfold ext; (repeat' split) <;> simp
def hdr (d n : Int) : List UInt8 := u8 (16 * (ext d).1 + (ext n).1) :: ((ext d).2 ++ (ext n).2)
theorem hdr_len (d n : Int) : (hdr d n).length ≤ 5 := by
 have := ext_len d
 have := ext_len n
 simp only [hdr, List.length_cons, List.length_append]; omega
def rawO : Int → List Opt → List UInt8
 | _, [] => []
 | l, o :: os => hdr (o.num - l) o.val.length ++ o.val ++ rawO o.num os
def lastO : Int → List Opt → Int
 | l, [] => l
 | _, o :: os => lastO o.num os
theorem rawO_snoc (o : Opt) : ∀ (l : Int) (os : List Opt), rawO l (os ++ [o]) = rawO l os ++ (hdr (o.num - lastO l os) o.val.length ++ o.val)
 | l, [] => by simp [rawO, lastO]
 | l, p :: os => by simp [rawO, lastO, rawO_snoc o p.num os]
theorem lastO_snoc (o : Opt) : ∀ (l : Int) (os : List Opt), lastO l (os ++ [o]) = o.num
 | l, [] => rfl
 | l, p :: os => lastO_snoc o p.num os
def AscO : Int → List Opt → Prop
 | _, [] => True
 | l, o :: os => l ≤ o.num ∧ o.num ≤ 65535 ∧ (o.val.length : Int) ≤ 1034 ∧ AscO o.num os
instance AscO.dec : ∀ (l : Int) (os : List Opt), Decidable (AscO l os)
 | _, [] => isTrue trivial
 | l, o :: os => by
  unfold AscO
  have := AscO.dec o.num os
  infer_instance
theorem AscO_snoc (o : Opt) : ∀ (l : Int) (os : List Opt), AscO l (os ++ [o]) ↔ AscO l os ∧ lastO l os ≤ o.num ∧ o.num ≤ 65535 ∧ (o.val.length : Int) ≤ 1034
 | l, [] => by simp [AscO, lastO]
 | l, p :: os => by simp only [List.cons_append, AscO, lastO, AscO_snoc o p.num os]; constructor <;> (rintro h; simp_all)
theorem AscO_app : ∀ {l : Int} {os ps : List Opt}, AscO l (os ++ ps) → AscO l os
 | l, [], ps, h => trivial
 | l, o :: os, ps, h => ⟨h.1, h.2.1, h.2.2.1, AscO_app h.2.2.2⟩
theorem AscO_take {l : Int} {os : List Opt} (h : AscO l os) (k : Nat) : AscO l (os.take k) := AscO_app (ps := os.drop k) (by rw [List.take_append_drop]; exact h)
theorem AscO_at {l : Int} {os : List Opt} (h : AscO l os) {k : Nat} (hk : k < os.length) : lastO l (os.take k) ≤ (oat os k).num ∧ (oat os k).num ≤ 65535 ∧ ((oat os k).val.length : Int) ≤ 1034 := by
 have := AscO_take h (k + 1)
 rw [take_snoc Opt.none hk, AscO_snoc] at this
 exact this.2
theorem lastO_ge : ∀ {l : Int} {os : List Opt}, AscO l os → l ≤ lastO l os ∧ (os ≠ [] → lastO l os ≤ 65535)
 | l, [], h => ⟨Int.le_refl _, fun h => absurd rfl h⟩
 | l, o :: os, h => by
  have := lastO_ge h.2.2.2
  refine ⟨Int.le_trans h.1 this.1, fun _ => ?_⟩
  cases os with
  | nil => exact h.2.1
  | cons p os => exact this.2 (by simp)
theorem lastO_le {l : Int} {os : List Opt} (h : AscO l os) (hl : l ≤ 65535) : l ≤ lastO l os ∧ lastO l os ≤ 65535 := by
 refine ⟨(lastO_ge h).1, ?_⟩
 cases os with
 | nil => exact hl
 | cons p os => exact (lastO_ge h).2 (by simp)
theorem rawO_len : ∀ {l : Int} {os : List Opt}, AscO l os → (rawO l os).length ≤ os.length * 1039
 | l, [], _ => by simp [rawO]
 | l, o :: os, h => by
  have h1 := rawO_len h.2.2.2
  have h2 := hdr_len (o.num - l) o.val.length
  have h3 := h.2.2.1
  simp only [rawO, List.length_append, List.length_cons]; omega

def headM (m : Msg) : List UInt8 := [u8 (64 + 16 * m.ty + m.tok.length), u8 m.code, u8 (m.id / 256), u8 m.id]
def raw (m : Msg) : List UInt8 := headM m ++ m.tok ++ rawO 0 m.opts ++ (if m.pay = [] then [] else 255 :: m.pay)
def ClsOk (c : Int) : Prop := c / 32 = 0 ∨ c / 32 = 2 ∨ c / 32 = 4 ∨ c / 32 = 5
/-- The fields of a message are valid. -/
def OkM (m : Msg) : Prop := (0 ≤ m.ty ∧ m.ty ≤ 3 ∧ 0 ≤ m.code ∧ m.code ≤ 255 ∧ ClsOk m.code) ∧ (0 ≤ m.id ∧ m.id ≤ 65535 ∧ (m.tok.length : Int) ≤ 8 ∧ (m.opts.length : Int) ≤ 32) ∧ AscO 0 m.opts ∧
 (m.code = 0 → (m.tok.length : Int) + m.opts.length + m.pay.length ≤ 0) ∧ (m.ty = 3 → m.code = 0) ∧ (m.pay.length : Int) ≤ 4096
instance (c : Int) : Decidable (ClsOk c) := by unfold ClsOk; infer_instance
instance (m : Msg) : Decidable (OkM m) := by unfold OkM; infer_instance
def ValM (m : Msg) : Prop := OkM m ∧ ((raw m).length : Int) ≤ 4096
instance (m : Msg) : Decidable (ValM m) := by unfold ValM; infer_instance
theorem raw_len {m : Msg} (h : OkM m) : (raw m).length ≤ 100000 := by
 have h1 := rawO_len h.2.2.1
 have h2 := h.2.1.2.2.1
 have h3 := h.2.1.2.2.2
 have h4 := h.2.2.2.2.2
 have h5 : (if m.pay = [] then [] else (255 : UInt8) :: m.pay).length ≤ m.pay.length + 1 := by split <;> simp
 simp only [raw, headM, List.length_append, List.length_cons, List.length_nil] at h5 ⊢
 omega

theorem extended_fn (n : Int) (hn : -1152921504606846976 ≤ n ∧ n ≤ 1152921504606846976) : Sp Tryz.prog 183 [.val (.int .i64 n)] [] (Is (.tup [.val (.int .i64 (ext n).1), roB (ext n).2])) := by
 refine yv Tryz.func183 _ Tryz.ntmps183 (fun w0 R0 => ?_)
 refine zx (zm ?_)
 refine zc ?_
 refine zc (zD (zl (zx (yS (zx (zm ?_))))))
 refine za ?_
 refine zH ?_
 refine zc (zD (zl ?_))
 refine yn (fun h => ?_) (fun h => ?_) <;> (try simp only [wN] at h)
 ·skip
  have e : ext n = (n, []) := by unfold ext; rw [if_pos h]
  refine zx (zm ?_)
  refine za ?_
  refine zc ?_
  refine zc (zD (zl (y1 ?_)))
  refine wb (xi ?_)
  refine AQ.g ?_
  refine G.nilRo 3 rfl ?_
  refine AQ.u ?_
  try dsimp only [List.map, List.eraseIdx, List.cons_append, List.nil_append]
  refine AQ.ret2 rfl rfl rfl ⟨_, List.nil_sublist _, .nil⟩ (⟨by rw [e]; rfl, rfl⟩)
 refine zx (zm ?_)
 refine za ?_
 refine zH ?_
 refine zc (zD (zl ?_))
 refine yn (fun h2 => ?_) (fun h2 => ?_) <;> (try simp only [wN] at h2)
 ·skip
  have e : ext n = (13, [u8 (n - 13)]) := by unfold ext; rw [if_neg (by omega), if_pos h2]
  refine zx (zm ?_)
  refine za ?_
  refine yl ?_
  refine yA ?_
  refine zK ?_
  intro B1
  refine zc ?_
  refine zc (zD (zl (y1 ?_)))
  refine wb (xi ?_)
  refine AQ.g ?_
  refine G.freezeSl 0 3 rfl rfl ⟨Nat.le_refl _, by unfold maxLen; omega⟩ ?_; refine G.unfull 3 rfl ?_
  refine AQ.u ?_
  try dsimp only [List.map, List.eraseIdx, List.cons_append, List.nil_append]
  refine AQ.ret2 rfl rfl rfl ⟨_, List.nil_sublist _, .nil⟩ (⟨by rw [e]; rfl, rfl⟩)
 have e : ext n = (14, [u8 ((n - 269) / 256), u8 (n - 269)]) := by unfold ext; rw [if_neg (by omega), if_neg (by omega)]
 refine yN (y5 (zl (zx (zm ?_))))
 refine za ?_
 refine yl ?_
 refine xZ ?_
 refine yA ?_
 refine za ?_
 refine yl ?_
 refine yA ?_
 refine zK ?_
 intro B2
 refine zc ?_
 refine zc (zD (zl (y1 ?_)))
 refine AQ.g ?_
 refine G.freezeSl 0 3 rfl rfl ⟨Nat.le_refl _, by unfold maxLen; omega⟩ ?_; refine G.unfull 3 rfl ?_
 refine AQ.u ?_
 try dsimp only [List.map, List.eraseIdx, List.cons_append, List.nil_append]
 refine AQ.ret2 rfl rfl rfl ⟨_, List.nil_sublist _, .nil⟩ (⟨by rw [e]; rfl, rfl⟩)
theorem parts_fn (n : Int) (hn : -1152921504606846976 ≤ n ∧ n ≤ 1152921504606846976) : Sp Tryz.prog 182 [.val (.int .i64 n)] [] (Is (.tup [.val (.int .u8 ((u8 (ext n).1).toNat : Int)), roB (ext n).2])) := by
 refine yv Tryz.func182 _ Tryz.ntmps182 (fun w0 R0 => ?_)
 refine zx (zm ?_)
 refine zc ?_
 refine zc (zD (zl (zx (yS (zx (zm ?_))))))
 refine za ?_
 refine zH ?_
 refine zc (zD (zl ?_))
 refine yn (fun h => ?_) (fun h => ?_) <;> (try simp only [wN] at h)
 ·skip
  have e : ext n = (n, []) := by unfold ext; rw [if_pos h]
  refine zx (zm ?_)
  refine za ?_
  refine yA ?_
  refine zc ?_
  refine zc (zD (zl (y1 ?_)))
  refine wb (xi ?_)
  refine AQ.g ?_
  refine G.nilRo 3 rfl ?_
  refine AQ.u ?_
  try dsimp only [List.map, List.eraseIdx, List.cons_append, List.nil_append]
  refine AQ.ret2 rfl rfl rfl ⟨_, List.nil_sublist _, .nil⟩ (⟨by rw [e]; rfl, rfl⟩)
 refine zx (zm ?_)
 refine za ?_
 refine zH ?_
 refine zc (zD (zl ?_))
 refine yn (fun h2 => ?_) (fun h2 => ?_) <;> (try simp only [wN] at h2)
 ·skip
  have e : ext n = (13, [u8 (n - 13)]) := by unfold ext; rw [if_neg (by omega), if_pos h2]
  refine zx (zm ?_)
  refine za ?_
  refine yl ?_
  refine yA ?_
  refine zK ?_
  intro B1
  refine zc ?_
  refine zc (zD (zl (y1 ?_)))
  refine wb (xi ?_)
  refine AQ.g ?_
  refine G.freezeSl 0 3 rfl rfl ⟨Nat.le_refl _, by unfold maxLen; omega⟩ ?_; refine G.unfull 3 rfl ?_
  refine AQ.u ?_
  try dsimp only [List.map, List.eraseIdx, List.cons_append, List.nil_append]
  refine AQ.ret2 rfl rfl rfl ⟨_, List.nil_sublist _, .nil⟩ (⟨by rw [e]; rfl, rfl⟩)
 have e : ext n = (14, [u8 ((n - 269) / 256), u8 (n - 269)]) := by unfold ext; rw [if_neg (by omega), if_neg (by omega)]
 refine yN (y5 (zl (zx (zm ?_))))
 refine za ?_
 refine yl ?_
 refine xZ ?_
 refine yA ?_
 refine za ?_
 refine yl ?_
 refine yA ?_
 refine zK ?_
 intro B2
 refine zc ?_
 refine zc (zD (zl (y1 ?_)))
 refine AQ.g ?_
 refine G.freezeSl 0 3 rfl rfl ⟨Nat.le_refl _, by unfold maxLen; omega⟩ ?_; refine G.unfull 3 rfl ?_
 refine AQ.u ?_
 try dsimp only [List.map, List.eraseIdx, List.cons_append, List.nil_append]
 refine AQ.ret2 rfl rfl rfl ⟨_, List.nil_sublist _, .nil⟩ (⟨by rw [e]; rfl, rfl⟩)
end Go.Proofs.YtojomcdjcpmnkaaGreat.By

namespace Go.Proofs.YtojomcdjcpmnkaaGreat.By
open Go.RowKit L A
set_option linter.unusedVariables false
set_option maxRecDepth 20000
set_option linter.unusedSimpArgs false
attribute [local irreducible] AW AQ AO

set_option maxHeartbeats 4000000 in
theorem sound_fn (m : Msg) : Sp Tryz.prog 162 [aggM m] [] (Is (.val (.bool (decide (OkM m))))) := by
 obtain ⟨ty, code, id, tok, opts, pay⟩ := m
 refine yv Tryz.func162 _ Tryz.ntmps162 (fun w0 R0 => ?_)
 refine zx (zm ?_)
 refine ya ?_
 intro B1
 refine zc (zD (zl (zx (zm ?_))))
 refine zn ?_
 refine zo ?_
 refine wI (xU 5 32) ?_
 refine zc (zD (zl (zx (zx (zm ?_)))))
 refine zn ?_
 refine zo ?_
 refine zH ?_
 refine za ?_
 refine zE ?_
 refine wn ?_
 refine AO.opG rfl rfl rfl (fun hp => yM 15 rfl (by exact hp)) ?_
 refine zB ?_
 refine za ?_
 refine zE ?_
 refine wo ?_
 refine AO.opG rfl rfl rfl (fun hp => wL 20 rfl (by exact hp) yc) ?_
 refine zB ?_
 refine za ?_
 refine zE ?_
 refine AO.opG rfl rfl rfl (fun hp => zu 24 rfl (by exact hp)) ?_
 refine AO.opG rfl rfl rfl (fun hp => yM 25 rfl (by exact hp)) ?_
 refine zB ?_
 refine za ?_
 refine yu ?_
 refine AO.opG rfl rfl rfl (fun hp => xO 29 rfl (by exact hp)) ?_
 refine AO.opG rfl rfl rfl (fun hp => wL 30 rfl (by exact hp) ze) ?_
 refine yu ?_
 refine AO.opG rfl rfl rfl (fun hp => xO 32 rfl (by exact hp)) ?_
 refine AO.opG rfl rfl rfl (fun hp => wl 31 rfl (by exact hp)) ?_
 refine AO.opG rfl rfl rfl (fun hp => wL 34 rfl (by exact hp) ze) ?_
 refine yu ?_
 refine AO.opG rfl rfl rfl (fun hp => xO 36 rfl (by exact hp)) ?_
 refine AO.opG rfl rfl rfl (fun hp => wl 35 rfl (by exact hp)) ?_
 refine AO.opG rfl rfl rfl (fun hp => wL 38 rfl (by exact hp) ze) ?_
 refine yu ?_
 refine AO.opG rfl rfl rfl (fun hp => xO 40 rfl (by exact hp)) ?_
 refine AO.opG rfl rfl rfl (fun hp => wl 39 rfl (by exact hp)) ?_
 refine zB (zD (zl ?_))
 refine yn (fun h => ?_) (fun h => ?_) <;> (try simp only [wN] at h)
 ·skip
  have e : decide (OkM ⟨ty, code, id, tok, opts, pay⟩) = false := by
   refine decide_eq_false fun hk => ?_
   obtain ⟨⟨a1, a2, a3, a4, a5⟩, -⟩ := hk
   simp only [ClsOk] at *
   omega
  refine zx (zm ?_)
  refine zc (zD (zl (y1 (xi ?_))))
  refine xK rfl rfl ⟨_, List.nil_sublist _, .nil⟩ (⟨congrArg (fun z => AV.val (.bool z)) e.symm, rfl⟩)
 refine yN (zl (zx (zx (zm ?_))))
 refine zn ?_
 refine zo ?_
 refine zH ?_
 refine za ?_
 refine zE ?_
 refine wq ?_
 refine AO.opG rfl rfl rfl (fun hp => yM 49 rfl (by exact hp)) ?_
 refine zB ?_
 refine za ?_
 refine zE ?_
 refine AO.opG rfl rfl rfl (fun hp => zu 53 rfl (by exact hp)) ?_
 refine AO.opG rfl rfl rfl (fun hp => yL 54 rfl (by exact hp)) ?_
 refine AO.opG rfl rfl rfl (fun hp => yM 55 rfl (by exact hp)) ?_
 refine zB ?_
 refine za ?_
 refine zE ?_
 refine AO.opG rfl rfl rfl (fun hp => zu 59 rfl (by exact hp)) ?_
 refine AO.opG rfl rfl rfl (fun hp => yL 60 rfl (by exact hp)) ?_
 refine AO.opG rfl rfl rfl (fun hp => yM 61 rfl (by exact hp)) ?_
 refine zB (zD (zl ?_))
 refine yn (fun h2 => ?_) (fun h2 => ?_) <;> (try simp only [wN] at h2)
 ·skip
  have e : decide (OkM ⟨ty, code, id, tok, opts, pay⟩) = false := by
   refine decide_eq_false fun hk => ?_
   obtain ⟨-, ⟨a1, a2, a3, a4⟩, -⟩ := hk
   simp only at *
   omega
  refine zx (zm ?_)
  refine zc (zD (zl (y1 (xi ?_))))
  refine xK rfl rfl ⟨_, List.nil_sublist _, .nil⟩ (⟨congrArg (fun z => AV.val (.bool z)) e.symm, rfl⟩)
 refine yN (zl (zx (zm ?_)))
 refine zc (zD (zl (zx (zx (zm ?_)))))
 refine zn ?_
 refine zo ?_
 refine zZ ?_
 refine za (zD (zl (yS ?_)))
 refine zg [(1, _), (65, _), (66, _)] (fun nn E H => ∃ (k : Nat), (k ≤ opts.length) ∧ (AscO 0 (opts.take k)) ∧ nn = opts.length - k ∧ E = [(4, .val (.int .i64 (lastO 0 (opts.take k)))), (67, .val (.int .i64 (k : Int)))] ∧ H = [.blk B1 29 6 [.val (.int .i64 ty), .val (.int .i64 code), .val (.int .i64 id), roB tok, roO opts, roB pay]]) _ (⟨0, by omega, trivial, rfl, rfl, rfl⟩) ?_
 rintro nn E H ⟨k, h1, ha, rfl, rfl, rfl⟩
 dsimp only [List.cons_append, List.nil_append]
 refine zx (zm ?_)
 refine zH (zD (zl (zx ?_)))
 refine yn (fun h3 => ?_) (fun h3 => ?_) <;> (try simp only [wN] at h3)
 ·skip
  have hk : k < opts.length := by omega
  refine yN (zl (zx (yS (zx (zm ?_)))))
  refine yh ?_
  refine y0 ?_
  refine zd ?_
  intro B2
  refine zb 0 rfl rfl rfl rfl rfl rfl (zD (zl (zx (zx (zm ?_)))))
  refine zn ?_
  refine zo ?_
  refine za ?_
  refine zH ?_
  refine za ?_
  refine zE ?_
  refine AO.opG rfl rfl rfl (fun hp => zu 76 rfl (by exact hp)) ?_
  refine AO.opG rfl rfl rfl (fun hp => yM 77 rfl (by exact hp)) ?_
  refine zB ?_
  refine za ?_
  refine zE ?_
  refine AO.opG rfl rfl rfl (fun hp => zu 81 rfl (by exact hp)) ?_
  refine AO.opG rfl rfl rfl (fun hp => yL 82 rfl (by exact hp)) ?_
  refine AO.opG rfl rfl rfl (fun hp => yM 83 rfl (by exact hp)) ?_
  refine zB (zD (zl ?_))
  refine yn (fun h4 => ?_) (fun h4 => ?_) <;> (try simp only [wN] at h4)
  ·skip
   have e : decide (OkM ⟨ty, code, id, tok, opts, pay⟩) = false := by
    refine decide_eq_false fun hk' => ?_
    obtain ⟨-, -, a1, -⟩ := hk'
    have := AscO_at a1 hk
    simp only at this
    omega
   refine zx (zm ?_)
   refine zc (zD (zl (y1 (xi ?_))))
   refine wb (xi ?_)
   refine AQ.loopR ?_
   refine wb (xi ?_)
   refine xK rfl rfl ⟨_, List.nil_sublist _, .nil⟩ (⟨congrArg (fun z => AV.val (.bool z)) e.symm, rfl⟩)
  have ha2 : AscO 0 (opts.take (k + 1)) := by
   rw [take_snoc Opt.none hk, AscO_snoc]
   exact ⟨ha, h4.1.1, h4.1.2, h4.2⟩
  have hl2 : lastO 0 (opts.take (k + 1)) = (oat opts k).num := by rw [take_snoc Opt.none hk, lastO_snoc]
  refine yN (zl (zm ?_))
  refine zn ?_
  refine zo ?_
  refine zc (zD (y5 (zl (zm ?_))))
  refine zr ?_
  refine za (zD ?_)
  refine zF _ _ _ (by omega) (⟨k + 1, by omega, ha2, rfl, by rw [hl2], rfl⟩)
 obtain rfl : k = opts.length := by omega
 rw [List.take_length] at ha
 have hw : (pay.length : Int) ≤ 4096 → IntKind.i64.wrap ((tok.length : Int) + opts.length + pay.length) = (tok.length : Int) + opts.length + pay.length := fun h => wI64 (by omega)
 refine xD ?_
 refine xr ?_
 refine xA ?_
 refine yZ (zl (zx (zx (zm ?_))))
 refine zn ?_
 refine zo ?_
 refine yd ?_
 refine za ?_
 refine zE ?_
 refine AO.opG rfl rfl rfl (fun hp => zu 93 rfl (by exact hp)) ?_
 refine AO.opG rfl rfl rfl (fun hp => yL 94 rfl (by exact hp)) ?_
 refine zE ?_
 refine AO.opG rfl rfl rfl (fun hp => zu 96 rfl (by exact hp)) ?_
 refine AO.opG rfl rfl rfl (fun hp => yL 97 rfl (by exact hp)) ?_
 refine AO.opG rfl rfl rfl (fun hp => wL 95 rfl (by exact hp) (wL 98 rfl (by exact hp) zA)) ?_
 refine zE ?_
 refine AO.opG rfl rfl rfl (fun hp => zu 100 rfl (by exact hp)) ?_
 refine AO.opG rfl rfl rfl (fun hp => yL 101 rfl (by exact hp)) ?_
 refine AO.opG rfl rfl rfl (fun hp => wL 99 rfl (by exact hp) (wL 102 rfl (by exact hp) (O.add rfl rfl rfl (by rfl)))) ?_
 refine AO.opG rfl rfl rfl (fun hp => yM 103 rfl (by exact hp)) ?_
 refine zN (zD (zl ?_))
 refine yn (fun h5 => ?_) (fun h5 => ?_) <;> (try simp only [wN] at h5)
 ·skip
  have e : decide (OkM ⟨ty, code, id, tok, opts, pay⟩) = false := by
   refine decide_eq_false fun hk' => ?_
   obtain ⟨-, -, -, a1, -, a2⟩ := hk'
   simp only at a1 a2
   have h6 := h5.2
   rw [hw a2] at h6
   have := a1 h5.1
   omega
  refine zx (zm ?_)
  refine zc (zD (zl (y1 (xi ?_))))
  refine xK rfl rfl ⟨_, List.nil_sublist _, .nil⟩ (⟨congrArg (fun z => AV.val (.bool z)) e.symm, rfl⟩)
 refine yN (zl (zx (zm ?_)))
 refine zn ?_
 refine zo ?_
 refine yX ?_
 refine za ?_
 refine zE ?_
 refine AO.opG rfl rfl rfl (fun hp => zu 110 rfl (by exact hp)) ?_
 refine AO.opG rfl rfl rfl (fun hp => y9 111 rfl (by exact hp)) ?_
 refine zB ?_
 refine za ?_
 refine zE ?_
 refine AO.opG rfl rfl rfl (fun hp => zu 115 rfl (by exact hp)) ?_
 refine AO.opG rfl rfl rfl (fun hp => yL 116 rfl (by exact hp)) ?_
 refine AO.opG rfl rfl rfl (fun hp => xn 117 rfl (by exact hp)) ?_
 refine zN ?_
 refine zc (zD (zl (y1 ?_)))
 have e : decide (OkM ⟨ty, code, id, tok, opts, pay⟩) = ((ty != 3 || code == 0) && decide ((pay.length : Int) ≤ 4096)) := by
  refine dec_eq ?_
  simp only [OkM, Bool.and_eq_true, Bool.or_eq_true, bne_iff_ne, beq_iff_eq, decide_eq_true_eq, ne_eq]
  constructor
  ·rintro ⟨-, -, -, -, a1, a2⟩
   refine ⟨?_, a2⟩
   by_cases h9 : ty = 3
   ·exact .inr (a1 h9)
   exact .inl h9
  rintro ⟨a1, a2⟩
  refine ⟨⟨by omega, by omega, by omega, by omega, ?_⟩, ⟨by omega, by omega, by omega, by omega⟩, ha, ?_, ?_, a2⟩
  ·unfold ClsOk; omega
  ·intro h9
   rcases Int.lt_or_le 0 ((tok.length : Int) + opts.length + pay.length) with h | h
   ·exact absurd h (by have := h5 h9; rw [hw a2] at this; omega)
   exact h
  intro h9
  rcases a1 with a1 | a1
  ·exact absurd h9 a1
  exact a1
 refine xK rfl rfl ⟨_, List.nil_sublist _, .nil⟩ (⟨congrArg (fun z => AV.val (.bool z)) e.symm, rfl⟩)
end Go.Proofs.YtojomcdjcpmnkaaGreat.By

namespace Go.Proofs.YtojomcdjcpmnkaaGreat.By
open Go.RowKit L A
set_option linter.unusedVariables false
set_option maxRecDepth 20000
set_option linter.unusedSimpArgs false
attribute [local irreducible] AW AQ AO

def rawTo (m : Msg) (k : Nat) : List UInt8 := headM m ++ m.tok ++ rawO 0 (m.opts.take k)
theorem rawTo_succ {m : Msg} {k : Nat} (h : k < m.opts.length) : rawTo m (k + 1) = rawTo m k ++ (hdr ((oat m.opts k).num - lastO 0 (m.opts.take k)) (oat m.opts k).val.length ++ (oat m.opts k).val) := by
 rw [rawTo, take_snoc Opt.none h, rawO_snoc, rawTo]; simp
theorem rawTo_len {m : Msg} (h : OkM m) (k : Nat) : (rawTo m k).length ≤ 12 + k * 1039 := by
 have h1 := rawO_len (AscO_take h.2.2.1 k)
 have h2 := h.2.1.2.2.1
 simp only [rawTo, headM, List.length_append, List.length_cons, List.length_nil, List.length_take] at h1 ⊢
 have : min k m.opts.length * 1039 ≤ k * 1039 := Nat.mul_le_mul_right _ (Nat.min_le_left _ _)
 omega
theorem raw_end (m : Msg) : raw m = rawTo m m.opts.length ++ (if m.pay = [] then [] else 255 :: m.pay) := by rw [raw, rawTo, List.take_length]

set_option maxHeartbeats 4000000 in
theorem encode_fn (m : Msg) (h : OkM m) : Sp Tryz.prog 163 [aggM m] [] (Is (roB (raw m))) := by
 have hlen := fun k => rawTo_len h k
 obtain ⟨⟨a1, a2, a3, a4, a5⟩, ⟨a6, a7, a8, a9⟩, a10, -, -, a11⟩ := h
 refine yv Tryz.func163 _ Tryz.ntmps163 (fun w0 R0 => ?_)
 have hd0a : (rawTo m 0).length = 4 + m.tok.length := by simp [rawTo, headM, rawO]; omega
 have hd0b : bytesA (rawTo m 0) = .val (.int .u8 ((u8 (64 + m.ty * 16 + m.tok.length)).toNat : Int)) :: .val (.int .u8 ((u8 m.code).toNat : Int)) :: .val (.int .u8 ((u8 (m.id / 256)).toNat : Int)) :: .val (.int .u8 ((u8 m.id).toNat : Int)) :: bytesA m.tok := by
  simp only [rawTo, headM, List.take_zero, rawO, List.append_nil, bytesA_app]
  simp [bytesA, show m.ty * 16 = 16 * m.ty by omega]
 refine zx (zm ?_)
 refine ya ?_
 intro B1
 refine zc (zD (zl (zx (zm ?_))))
 refine zn ?_
 refine zo ?_
 refine wI (O.shlK 4 16 rfl rfl rfl rfl (by rfl) (by exact wI64 (by omega))) ?_
 refine wI (O.or_ rfl rfl rfl (orI64 6 (m := 64) (by decide) (by omega) (by omega))) ?_
 refine zn ?_
 refine zo ?_
 refine zZ ?_
 refine wI (O.or_ rfl rfl rfl (orI64 4 (m := 16) (by decide) (by omega) (by omega))) ?_
 refine yA ?_
 refine zn ?_
 refine zo ?_
 refine yA ?_
 refine zn ?_
 refine zo ?_
 refine xZ ?_
 refine yA ?_
 refine zn ?_
 refine zo ?_
 refine yA ?_
 refine zK ?_
 intro B2
 refine AO.g ?_
 refine G.closeRow (b := B2) (n := 4) (cap := 4) 0 rfl rfl rfl (Nat.le_refl _) (by (unfold maxLen; omega)) ?_
 refine AO.u ?_
 dsimp only [List.set]
 refine zc (zD (zl (zx (zm ?_))))
 refine za ?_
 refine zn ?_
 refine zp ?_
 refine zt 0 rfl rfl rfl rfl (by rfl) (by rfl) rfl rfl rfl (by exact SrcA.ro TyD.ax (by (simp; done)) (Nat.le_of_ble_eq_true rfl)) (by (simp [AV.cells, AV.one, *]; done)) (by (unfold maxLen; omega)) ?_
 intro V3 hV3
 refine zc (zD (zl (zx (zm ?_))))
 refine zc (zD (zl (zx (zx (zm ?_)))))
 refine zn ?_
 refine zp ?_
 refine zZ ?_
 refine za (zD (zl (yS ?_)))
 refine zg [(1, _), (36, _), (37, _)] (fun nn E H => ∃ (k : Nat) (V : Value), (k ≤ m.opts.length) ∧ (V.oneCell' = true) ∧ nn = m.opts.length - k ∧ E = [(3, .val V), (4, .val (.int .i64 (lastO 0 (m.opts.take k)))), (38, .val (.int .i64 (k : Int)))] ∧ H = [.row V 5 1 (rawTo m k).length (bytesA (rawTo m k)), .blk B1 29 6 [.val (.int .i64 m.ty), .val (.int .i64 m.code), .val (.int .i64 m.id), roB m.tok, roO m.opts, roB m.pay]]) _ (⟨0, V3, by omega, hV3, rfl, rfl, by rw [hd0b, hd0a]⟩) ?_
 rintro nn E H ⟨k, V, h1, hV, rfl, rfl, rfl⟩
 dsimp only [List.cons_append, List.nil_append]
 have hl0 := hlen k
 refine zx (zm ?_)
 refine zH (zD (zl (zx ?_)))
 refine yn (fun h3 => ?_) (fun h3 => ?_) <;> (try simp only [wN] at h3)
 ·skip
  have hk : k < m.opts.length := by omega
  have hl1 := hlen (k + 1)
  have ho := AscO_at a10 hk
  have hla := lastO_le (AscO_take a10 k) (by omega)
  have hd1 := ext_le ((oat m.opts k).num - lastO 0 (m.opts.take k)) (by omega)
  have hq1 := ext_le ((oat m.opts k).val.length : Int) (by omega)
  have hd2 := ext_len ((oat m.opts k).num - lastO 0 (m.opts.take k))
  have hq2 := ext_len ((oat m.opts k).val.length : Int)
  have hdu := u8_small (x := (ext ((oat m.opts k).num - lastO 0 (m.opts.take k))).1) (by omega)
  have hqu := u8_small (x := (ext ((oat m.opts k).val.length : Int)).1) (by omega)
  have hxu := u8_small (x := 16 * (ext ((oat m.opts k).num - lastO 0 (m.opts.take k))).1 + (ext ((oat m.opts k).val.length : Int)).1) (by omega)
  have hxv : ((u8 (16 * (ext ((oat m.opts k).num - lastO 0 (m.opts.take k))).1 + (ext ((oat m.opts k).val.length : Int)).1)).toNat : Int) = ((u8 (ext ((oat m.opts k).num - lastO 0 (m.opts.take k))).1).toNat : Int) * 16 + ((u8 (ext ((oat m.opts k).val.length : Int)).1).toNat : Int) := by omega
  have hlast : lastO 0 (m.opts.take (k + 1)) = (oat m.opts k).num := by rw [take_snoc Opt.none hk, lastO_snoc]
  have hsc : bytesA (rawTo m (k + 1)) = bytesA (rawTo m k) ++ [.val (.int .u8 (((u8 (ext ((oat m.opts k).num - lastO 0 (m.opts.take k))).1).toNat : Int) * 16 + ((u8 (ext ((oat m.opts k).val.length : Int)).1).toNat : Int)))] ++ bytesA (ext ((oat m.opts k).num - lastO 0 (m.opts.take k))).2 ++ bytesA (ext ((oat m.opts k).val.length : Int)).2 ++ bytesA (oat m.opts k).val := by
   rw [rawTo_succ hk, hdr]
   simp only [bytesA_app, List.append_assoc, List.cons_append, bytesA, List.map_cons, List.map_nil, List.nil_append, List.map_append, hxv]
  have hsl : (rawTo m (k + 1)).length = (rawTo m k).length + 1 + (ext ((oat m.opts k).num - lastO 0 (m.opts.take k))).2.length + (ext ((oat m.opts k).val.length : Int)).2.length + (oat m.opts k).val.length := by
   rw [rawTo_succ hk, hdr]
   simp only [List.length_append, List.length_cons]; omega
  refine yN (zl (zx (yS (zx (zm ?_)))))
  refine yh ?_
  refine y0 ?_
  refine yV ?_
  intro B4
  refine zP 0 rfl rfl rfl rfl rfl rfl (zD (zl (zx (zm ?_))))
  refine zn ?_
  refine zo ?_
  refine za ?_
  refine yl ?_
  refine wI (xl rfl Tryz.func182 rfl rfl rfl (parts_fn _ ⟨by omega, by omega⟩)) ?_
  refine za ?_
  refine zW ?_
  refine zW ?_
  refine zc ?_
  refine zc (zD (zl (zx (zm ?_))))
  refine zn ?_
  refine zo ?_
  refine zZ ?_
  refine wI (xl rfl Tryz.func182 rfl rfl rfl (parts_fn _ ⟨by omega, by omega⟩)) ?_
  refine za ?_
  refine zW ?_
  refine zW ?_
  refine zc ?_
  refine zc (zD (zl (zx ?_)))
  refine AW.regionM [(0, false), (1, false), (2, false), (3, false), (4, false), (5, false), (7, false), (9, false), (11, false), (12, false), (6, true), (8, true), (10, true), (13, true), (14, true)] (by kernel_rfl) (by kernel_rfl) (by exact (by exact splitRow 3 1 rfl rfl splitNil)) ?_
  dsimp only [List.eraseIdx]
  refine xo ?_
  refine xo ?_
  refine wM rfl (O.shlK 4 16 rfl rfl rfl rfl (by rfl) (by exact wU8 (by omega))) ?_
  refine xo ?_
  refine wM rfl (O.or_ rfl rfl rfl (orU8 4 (m := 16) (by decide) (by omega) (by omega))) ?_
  refine wM rfl (OpW.frz (z7 rfl rfl rfl) (by (unfold maxLen; omega))) ?_
  refine xo ?_
  refine xo ?_
  refine xP ?_
  refine x3 ?_
  refine wk _ (fun w0 R0 => ?_)
  refine zt 0 rfl rfl rfl rfl (by rfl) (by rfl) rfl rfl rfl (by exact SrcA.ro TyD.ax (by rfl) (Nat.le_of_ble_eq_true rfl)) (by rfl) (by (unfold maxLen; omega)) ?_
  intro V5 hV5
  refine AM.ok ?_
  dsimp only [putE]
  refine wk _ (fun w0 R0 => ?_)
  refine zt 0 rfl rfl rfl rfl (by rfl) (by rfl) rfl rfl rfl (by exact SrcA.ro TyD.ax (by (simp; done)) (Nat.le_of_ble_eq_true rfl)) (by (simp [AV.cells, AV.one, *]; done)) (by (unfold maxLen; omega)) ?_
  intro V6 hV6
  refine AM.ok ?_
  dsimp only [putE]
  refine wk _ (fun w0 R0 => ?_)
  refine zt 0 rfl rfl rfl rfl (by rfl) (by rfl) rfl rfl rfl (by exact SrcA.ro TyD.ax (by (simp; done)) (Nat.le_of_ble_eq_true rfl)) (by (simp [AV.cells, AV.one, *]; done)) (by (unfold maxLen; omega)) ?_
  intro V7 hV7
  refine AM.ok ?_
  dsimp only [putE]
  refine wk _ (fun w0 R0 => ?_)
  refine zt 0 rfl rfl rfl rfl (by rfl) (by rfl) rfl rfl rfl (by exact SrcA.ro TyD.ax (by (simp; done)) (Nat.le_of_ble_eq_true rfl)) (by (simp [AV.cells, AV.one, *]; done)) (by (unfold maxLen; omega)) ?_
  intro V8 hV8
  refine AM.ok ?_
  dsimp only [putE]
  refine wk _ (fun w0 R0 => ?_)
  refine zc ?_
  refine AM.ok ?_
  dsimp only [putE]
  refine AM.nil ?_
  dsimp only [List.cons_append, List.nil_append]
  refine zl (zm ?_)
  refine zn ?_
  refine zp ?_
  refine zc (zD (y5 (zl (zm ?_))))
  refine zr ?_
  refine za (zD ?_)
  refine xe _ _ _ (by omega) (⟨k + 1, _, by omega, ‹_›, rfl, by rw [hlast], by rw [hsc, hsl]⟩)
 obtain rfl : k = m.opts.length := by omega
 have hre : raw m = rawTo m m.opts.length ++ (if m.pay = [] then [] else 255 :: m.pay) := raw_end m
 refine xD ?_
 refine xr ?_
 refine xA ?_
 refine yZ (zl (zx (zx (zm ?_))))
 refine zn ?_
 refine zp ?_
 refine zZ ?_
 refine y7 (zD (zl ?_))
 refine yn (fun h5 => ?_) (fun h5 => ?_) <;> (try simp only [wN] at h5)
 ·skip
  rw [if_neg (fun e => by rw [e] at h5; simp at h5)] at hre
  refine AW.regionM [(0, false), (1, false), (3, false), (4, false), (2, true), (5, true), (6, true)] (by kernel_rfl) (by kernel_rfl) (by exact (by exact splitRow 3 0 rfl rfl splitNil)) ?_
  dsimp only [List.eraseIdx]
  refine xo ?_
  refine wM rfl (OpW.frz (z7 rfl rfl rfl) (by (unfold maxLen; omega))) ?_
  refine xP ?_
  refine x3 ?_
  refine wk _ (fun w0 R0 => ?_)
  refine zt 0 rfl rfl rfl rfl (by rfl) (by rfl) rfl rfl rfl (by exact SrcA.ro TyD.ax (by rfl) (Nat.le_of_ble_eq_true rfl)) (by rfl) (by (unfold maxLen; omega)) ?_
  intro V9 hV9
  refine AM.ok ?_
  dsimp only [putE]
  refine wk _ (fun w0 R0 => ?_)
  refine zt 0 rfl rfl rfl rfl (by rfl) (by rfl) rfl rfl rfl (by exact SrcA.ro TyD.ax (by (simp; done)) (Nat.le_of_ble_eq_true rfl)) (by (simp [AV.cells, AV.one, *]; done)) (by (unfold maxLen; omega)) ?_
  intro V10 hV10
  refine AM.ok ?_
  dsimp only [putE]
  refine wk _ (fun w0 R0 => ?_)
  refine zc ?_
  refine AM.ok ?_
  dsimp only [putE]
  refine AM.nil ?_
  dsimp only [List.cons_append, List.nil_append]
  refine zl (zx (zm ?_))
  refine za ?_
  refine zc (zD (zl (y1 ?_)))
  refine AQ.g ?_
  refine z6 0 [2] ?_
  refine AQ.u ?_
  try dsimp only [List.map, List.eraseIdx, List.cons_append, List.nil_append]
  refine xK rfl rfl ⟨_, List.nil_sublist _, .nil⟩ (⟨roB_of (by rw [hre]; simp only [List.length_append, List.length_cons]; omega) (by rw [hre]; simp [bytesA]), rfl⟩)
 rw [if_pos (List.eq_nil_of_length_eq_zero (by omega)), List.append_nil] at hre
 refine yN (zl (zx (zm ?_)))
 refine za ?_
 refine zc (zD (zl (y1 ?_)))
 refine AQ.g ?_
 refine z6 0 [2] ?_
 refine AQ.u ?_
 try dsimp only [List.map, List.eraseIdx, List.cons_append, List.nil_append]
 refine xK rfl rfl ⟨_, List.nil_sublist _, .nil⟩ (⟨by rw [hre]; rfl, rfl⟩)
end Go.Proofs.YtojomcdjcpmnkaaGreat.By

namespace Go.Proofs.YtojomcdjcpmnkaaGreat.By
open Go.RowKit L A
set_option linter.unusedVariables false
set_option maxRecDepth 20000
set_option linter.unusedSimpArgs false
attribute [local irreducible] AW AQ AO

set_option maxHeartbeats 4000000 in
theorem raw_fn (m : Msg) (h : OkM m) : Sp Tryz.prog 165 [aggM m] [] (Is (roB (raw m))) := by
 have hlen := fun k => rawTo_len h k
 obtain ⟨⟨a1, a2, a3, a4, a5⟩, ⟨a6, a7, a8, a9⟩, a10, -, -, a11⟩ := h
 refine yv Tryz.func165 _ Tryz.ntmps165 (fun w0 R0 => ?_)
 have hd0a : (rawTo m 0).length = 4 + m.tok.length := by simp [rawTo, headM, rawO]; omega
 have hd0b : bytesA (rawTo m 0) = .val (.int .u8 ((u8 (64 + 16 * m.ty + m.tok.length)).toNat : Int)) :: .val (.int .u8 ((u8 m.code).toNat : Int)) :: .val (.int .u8 ((u8 (m.id / 256)).toNat : Int)) :: .val (.int .u8 ((u8 m.id).toNat : Int)) :: bytesA m.tok := by
  simp only [rawTo, headM, List.take_zero, rawO, List.append_nil, bytesA_app]
  simp [bytesA]
 refine zx (zm ?_)
 refine ya ?_
 intro B1
 refine zc (zD (zl (zx (zm ?_))))
 refine zn ?_
 refine zo ?_
 refine xM ?_
 refine zr ?_
 refine zn ?_
 refine zo ?_
 refine zZ ?_
 refine zr ?_
 refine yA ?_
 refine zn ?_
 refine zo ?_
 refine yA ?_
 refine zn ?_
 refine zo ?_
 refine xZ ?_
 refine yA ?_
 refine zn ?_
 refine zo ?_
 refine yA ?_
 refine zK ?_
 intro B2
 refine AO.g ?_
 refine G.closeRow (b := B2) (n := 4) (cap := 4) 0 rfl rfl rfl (Nat.le_refl _) (by (unfold maxLen; omega)) ?_
 refine AO.u ?_
 dsimp only [List.set]
 refine zc (zD (zl (zx (zm ?_))))
 refine za ?_
 refine zn ?_
 refine zp ?_
 refine zt 0 rfl rfl rfl rfl (by rfl) (by rfl) rfl rfl rfl (by exact SrcA.ro TyD.ax (by (simp; done)) (Nat.le_of_ble_eq_true rfl)) (by (simp [AV.cells, AV.one, *]; done)) (by (unfold maxLen; omega)) ?_
 intro V3 hV3
 refine zc (zD (zl (zx (zm ?_))))
 refine zc (zD (zl (zx (zx (zm ?_)))))
 refine zn ?_
 refine zp ?_
 refine zZ ?_
 refine za (zD (zl (yS ?_)))
 refine zg [(1, _), (36, _), (37, _)] (fun nn E H => ∃ (k : Nat) (V : Value), (k ≤ m.opts.length) ∧ (V.oneCell' = true) ∧ nn = m.opts.length - k ∧ E = [(3, .val V), (4, .val (.int .i64 (lastO 0 (m.opts.take k)))), (38, .val (.int .i64 (k : Int)))] ∧ H = [.row V 5 1 (rawTo m k).length (bytesA (rawTo m k)), .blk B1 29 6 [.val (.int .i64 m.ty), .val (.int .i64 m.code), .val (.int .i64 m.id), roB m.tok, roO m.opts, roB m.pay]]) _ (⟨0, V3, by omega, hV3, rfl, rfl, by rw [hd0b, hd0a]⟩) ?_
 rintro nn E H ⟨k, V, h1, hV, rfl, rfl, rfl⟩
 dsimp only [List.cons_append, List.nil_append]
 have hl0 := hlen k
 refine zx (zm ?_)
 refine zH (zD (zl (zx ?_)))
 refine yn (fun h3 => ?_) (fun h3 => ?_) <;> (try simp only [wN] at h3)
 ·skip
  have hk : k < m.opts.length := by omega
  have hl1 := hlen (k + 1)
  have ho := AscO_at a10 hk
  have hla := lastO_le (AscO_take a10 k) (by omega)
  have hd1 := ext_le ((oat m.opts k).num - lastO 0 (m.opts.take k)) (by omega)
  have hq1 := ext_le ((oat m.opts k).val.length : Int) (by omega)
  have hd2 := ext_len ((oat m.opts k).num - lastO 0 (m.opts.take k))
  have hq2 := ext_len ((oat m.opts k).val.length : Int)
  have hdu := u8_small (x := (ext ((oat m.opts k).num - lastO 0 (m.opts.take k))).1) (by omega)
  have hqu := u8_small (x := (ext ((oat m.opts k).val.length : Int)).1) (by omega)
  have hxu := u8_small (x := 16 * (ext ((oat m.opts k).num - lastO 0 (m.opts.take k))).1 + (ext ((oat m.opts k).val.length : Int)).1) (by omega)
  have hlast : lastO 0 (m.opts.take (k + 1)) = (oat m.opts k).num := by rw [take_snoc Opt.none hk, lastO_snoc]
  have hsc : bytesA (rawTo m (k + 1)) = bytesA (rawTo m k) ++ [.val (.int .u8 ((u8 (16 * (ext ((oat m.opts k).num - lastO 0 (m.opts.take k))).1 + (ext ((oat m.opts k).val.length : Int)).1)).toNat : Int))] ++ bytesA (ext ((oat m.opts k).num - lastO 0 (m.opts.take k))).2 ++ bytesA (ext ((oat m.opts k).val.length : Int)).2 ++ bytesA (oat m.opts k).val := by
   rw [rawTo_succ hk, hdr]
   simp only [bytesA_app, List.append_assoc, List.cons_append, bytesA, List.map_cons, List.map_nil, List.nil_append, List.map_append]
  have hsl : (rawTo m (k + 1)).length = (rawTo m k).length + 1 + (ext ((oat m.opts k).num - lastO 0 (m.opts.take k))).2.length + (ext ((oat m.opts k).val.length : Int)).2.length + (oat m.opts k).val.length := by
   rw [rawTo_succ hk, hdr]
   simp only [List.length_append, List.length_cons]; omega
  refine yN (zl (zx (yS (zx (zm ?_)))))
  refine yh ?_
  refine y0 ?_
  refine yV ?_
  intro B4
  refine zP 0 rfl rfl rfl rfl rfl rfl (zD (zl (zx (zm ?_))))
  refine zn ?_
  refine zo ?_
  refine za ?_
  refine yl ?_
  refine wI (xl rfl Tryz.func183 rfl rfl rfl (extended_fn _ ⟨by omega, by omega⟩)) ?_
  refine za ?_
  refine zW ?_
  refine zW ?_
  refine zc ?_
  refine zc (zD (zl (zx (zm ?_))))
  refine zn ?_
  refine zo ?_
  refine zZ ?_
  refine wI (xl rfl Tryz.func183 rfl rfl rfl (extended_fn _ ⟨by omega, by omega⟩)) ?_
  refine za ?_
  refine zW ?_
  refine zW ?_
  refine zc ?_
  refine zc (zD (zl (zx ?_)))
  refine AW.regionM [(0, false), (1, false), (2, false), (3, false), (4, false), (5, false), (6, false), (8, false), (10, false), (12, false), (13, false), (7, true), (9, true), (11, true), (14, true), (15, true)] (by kernel_rfl) (by kernel_rfl) (by exact (by exact splitRow 3 1 rfl rfl splitNil)) ?_
  dsimp only [List.eraseIdx]
  refine xo ?_
  refine xo ?_
  refine wM rfl yJ ?_
  refine xo ?_
  refine wM rfl zA ?_
  refine wM rfl (O.conv rfl rfl wU8any) ?_
  refine wM rfl (OpW.frz (z7 rfl rfl rfl) (by (unfold maxLen; omega))) ?_
  refine xo ?_
  refine xo ?_
  refine xP ?_
  refine x3 ?_
  refine wk _ (fun w0 R0 => ?_)
  refine zt 0 rfl rfl rfl rfl (by rfl) (by rfl) rfl rfl rfl (by exact SrcA.ro TyD.ax (by rfl) (Nat.le_of_ble_eq_true rfl)) (by rfl) (by (unfold maxLen; omega)) ?_
  intro V5 hV5
  refine AM.ok ?_
  dsimp only [putE]
  refine wk _ (fun w0 R0 => ?_)
  refine zt 0 rfl rfl rfl rfl (by rfl) (by rfl) rfl rfl rfl (by exact SrcA.ro TyD.ax (by (simp; done)) (Nat.le_of_ble_eq_true rfl)) (by (simp [AV.cells, AV.one, *]; done)) (by (unfold maxLen; omega)) ?_
  intro V6 hV6
  refine AM.ok ?_
  dsimp only [putE]
  refine wk _ (fun w0 R0 => ?_)
  refine zt 0 rfl rfl rfl rfl (by rfl) (by rfl) rfl rfl rfl (by exact SrcA.ro TyD.ax (by (simp; done)) (Nat.le_of_ble_eq_true rfl)) (by (simp [AV.cells, AV.one, *]; done)) (by (unfold maxLen; omega)) ?_
  intro V7 hV7
  refine AM.ok ?_
  dsimp only [putE]
  refine wk _ (fun w0 R0 => ?_)
  refine zt 0 rfl rfl rfl rfl (by rfl) (by rfl) rfl rfl rfl (by exact SrcA.ro TyD.ax (by (simp; done)) (Nat.le_of_ble_eq_true rfl)) (by (simp [AV.cells, AV.one, *]; done)) (by (unfold maxLen; omega)) ?_
  intro V8 hV8
  refine AM.ok ?_
  dsimp only [putE]
  refine wk _ (fun w0 R0 => ?_)
  refine zc ?_
  refine AM.ok ?_
  dsimp only [putE]
  refine AM.nil ?_
  dsimp only [List.cons_append, List.nil_append]
  refine zl (zm ?_)
  refine zn ?_
  refine zp ?_
  refine zc (zD (y5 (zl (zm ?_))))
  refine zr ?_
  refine za (zD ?_)
  refine xe _ _ _ (by omega) (⟨k + 1, _, by omega, ‹_›, rfl, by rw [hlast], by rw [hsc, hsl]⟩)
 obtain rfl : k = m.opts.length := by omega
 have hre : raw m = rawTo m m.opts.length ++ (if m.pay = [] then [] else 255 :: m.pay) := raw_end m
 refine xD ?_
 refine xr ?_
 refine xA ?_
 refine yZ (zl (zx (zx (zm ?_))))
 refine zn ?_
 refine zp ?_
 refine zZ ?_
 refine y7 (zD (zl ?_))
 refine yn (fun h5 => ?_) (fun h5 => ?_) <;> (try simp only [wN] at h5)
 ·skip
  rw [if_neg (fun e => by rw [e] at h5; simp at h5)] at hre
  refine AW.regionM [(0, false), (1, false), (3, false), (4, false), (2, true), (5, true), (6, true)] (by kernel_rfl) (by kernel_rfl) (by exact (by exact splitRow 3 0 rfl rfl splitNil)) ?_
  dsimp only [List.eraseIdx]
  refine xo ?_
  refine wM rfl (OpW.frz (z7 rfl rfl rfl) (by (unfold maxLen; omega))) ?_
  refine xP ?_
  refine x3 ?_
  refine wk _ (fun w0 R0 => ?_)
  refine zt 0 rfl rfl rfl rfl (by rfl) (by rfl) rfl rfl rfl (by exact SrcA.ro TyD.ax (by rfl) (Nat.le_of_ble_eq_true rfl)) (by rfl) (by (unfold maxLen; omega)) ?_
  intro V9 hV9
  refine AM.ok ?_
  dsimp only [putE]
  refine wk _ (fun w0 R0 => ?_)
  refine zt 0 rfl rfl rfl rfl (by rfl) (by rfl) rfl rfl rfl (by exact SrcA.ro TyD.ax (by (simp; done)) (Nat.le_of_ble_eq_true rfl)) (by (simp [AV.cells, AV.one, *]; done)) (by (unfold maxLen; omega)) ?_
  intro V10 hV10
  refine AM.ok ?_
  dsimp only [putE]
  refine wk _ (fun w0 R0 => ?_)
  refine zc ?_
  refine AM.ok ?_
  dsimp only [putE]
  refine AM.nil ?_
  dsimp only [List.cons_append, List.nil_append]
  refine zl (zx (zm ?_))
  refine za ?_
  refine zc (zD (zl (y1 ?_)))
  refine AQ.g ?_
  refine z6 0 [2] ?_
  refine AQ.u ?_
  try dsimp only [List.map, List.eraseIdx, List.cons_append, List.nil_append]
  refine xK rfl rfl ⟨_, List.nil_sublist _, .nil⟩ (⟨roB_of (by rw [hre]; simp only [List.length_append, List.length_cons]; omega) (by rw [hre]; simp [bytesA]), rfl⟩)
 rw [if_pos (List.eq_nil_of_length_eq_zero (by omega)), List.append_nil] at hre
 refine yN (zl (zx (zm ?_)))
 refine za ?_
 refine zc (zD (zl (y1 ?_)))
 refine AQ.g ?_
 refine z6 0 [2] ?_
 refine AQ.u ?_
 try dsimp only [List.map, List.eraseIdx, List.cons_append, List.nil_append]
 refine xK rfl rfl ⟨_, List.nil_sublist _, .nil⟩ (⟨by rw [hre]; rfl, rfl⟩)
end Go.Proofs.YtojomcdjcpmnkaaGreat.By

namespace Go.Proofs.YtojomcdjcpmnkaaGreat.By
open Go.RowKit L A
set_option linter.unusedVariables false
set_option maxRecDepth 20000
set_option linter.unusedSimpArgs false
attribute [local irreducible] AW AQ AO

def encR (m : Msg) : List UInt8 × Int := if ValM m then (raw m, 0) else ([], 1)
theorem encR_t {m : Msg} (h : ValM m) : encR m = (raw m, 0) := if_pos h
theorem encR_f {m : Msg} (h : ¬ValM m) : encR m = ([], 1) := if_neg h
set_option maxHeartbeats 4000000 in
theorem enc_fn (m : Msg) : Sp Tryz.prog 119 [aggM m] [] (Is (.tup [roB (encR m).1, .val (.int .i64 (encR m).2)])) := by
 refine yv Tryz.func119 _ Tryz.ntmps119 (fun w0 R0 => ?_)
 refine zx (zm ?_)
 refine ya ?_
 intro B1
 refine zc ?_
 refine zc (zD (zl (zx (zx (zm ?_)))))
 refine xY ?_
 refine wI (xl rfl Tryz.func162 rfl rfl rfl (sound_fn m)) ?_
 refine xu (zD (zl ?_))
 refine yn (fun h => ?_) (fun h => ?_) <;> (try simp only [wN] at h)
 ·skip
  have e : encR m = ([], 1) := encR_f fun hv => h hv.1
  refine zx (zm ?_)
  refine zc ?_
  refine zc (zD (zl (y1 (xi ?_))))
  refine FnQ.coe yx ye (⟨congrArg (fun z : List UInt8 × Int => AV.tup [roB z.1, .val (.int .i64 z.2)]) e.symm, rfl⟩)
 have hm : OkM m := h
 have hl := raw_len hm
 refine yN (zl (zx (zm ?_)))
 refine xY ?_
 refine wI (xl rfl Tryz.func163 rfl rfl rfl (encode_fn m hm)) ?_
 refine zc (zD (zl (zx (zx (zm ?_)))))
 refine za ?_
 refine zZ ?_
 refine y7 (zD (zl ?_))
 refine yn (fun h2 => ?_) (fun h2 => ?_) <;> (try simp only [wN] at h2)
 ·skip
  have e : encR m = ([], 1) := encR_f fun hv => by have := hv.2; omega
  refine zx (zm ?_)
  refine zc ?_
  refine zc (zD (zl (y1 (xi ?_))))
  refine FnQ.coe yx ye (⟨congrArg (fun z : List UInt8 × Int => AV.tup [roB z.1, .val (.int .i64 z.2)]) e.symm, rfl⟩)
 have e : encR m = (raw m, 0) := encR_t ⟨hm, by omega⟩
 refine yN (zl (zx (zm ?_)))
 refine za ?_
 refine zc ?_
 refine zc (zD (zl (y1 ?_)))
 refine AQ.ret2 rfl rfl rfl ⟨_, List.nil_sublist _, .nil⟩ (⟨congrArg (fun z : List UInt8 × Int => AV.tup [roB z.1, .val (.int .i64 z.2)]) e.symm, rfl⟩)
theorem cls_div {c : Int} (h : 0 ≤ c) : c.tdiv 32 = c / 32 := Int.tdiv_eq_ediv_of_nonneg h
end Go.Proofs.YtojomcdjcpmnkaaGreat.By

namespace Go.Proofs.YtojomcdjcpmnkaaGreat.By
open Go.RowKit L A
set_option linter.unusedVariables false
set_option maxRecDepth 20000
set_option linter.unusedSimpArgs false
attribute [local irreducible] AW AQ AO

set_option maxHeartbeats 4000000 in
set_option maxRecDepth 20000 in
theorem rvalid_fn (m : Msg) : Sp Tryz.prog 164 [aggM m] [] (Is (.val (.bool (decide (ValM m))))) := by
 obtain ⟨ty, code, id, tok, opts, pay⟩ := m
 refine yv Tryz.func164 _ Tryz.ntmps164 (fun w0 R0 => ?_)
 refine zx (zm ?_)
 refine ya ?_
 intro B1
 refine zc (zD (zl (zx (zx (zm ?_)))))
 refine zn ?_
 refine zo ?_
 refine zH ?_
 refine za ?_
 refine zE ?_
 refine AO.opG rfl rfl rfl (fun hp => zu 11 rfl (by exact hp)) ?_
 refine AO.opG rfl rfl rfl (fun hp => yM 12 rfl (by exact hp)) ?_
 refine zB ?_
 refine za ?_
 refine zE ?_
 refine AO.opG rfl rfl rfl (fun hp => zu 16 rfl (by exact hp)) ?_
 refine AO.opG rfl rfl rfl (fun hp => wL 17 rfl (by exact hp) yc) ?_
 refine zB ?_
 refine za ?_
 refine zE ?_
 refine AO.opG rfl rfl rfl (fun hp => zu 21 rfl (by exact hp)) ?_
 refine AO.opG rfl rfl rfl (fun hp => yM 22 rfl (by exact hp)) ?_
 refine zB ?_
 refine za ?_
 refine zE ?_
 refine wr ?_
 refine AO.opG rfl rfl rfl (fun hp => wL 27 rfl (by exact hp) yc) ?_
 refine zB ?_
 refine za ?_
 refine zE ?_
 refine AO.opG rfl rfl rfl (fun hp => zu 31 rfl (by exact hp)) ?_
 refine AO.opG rfl rfl rfl (fun hp => yM 32 rfl (by exact hp)) ?_
 refine zB ?_
 refine za ?_
 refine zE ?_
 refine AO.opG rfl rfl rfl (fun hp => zu 36 rfl (by exact hp)) ?_
 refine AO.opG rfl rfl rfl (fun hp => yL 37 rfl (by exact hp)) ?_
 refine AO.opG rfl rfl rfl (fun hp => yM 38 rfl (by exact hp)) ?_
 refine zB ?_
 refine za ?_
 refine zE ?_
 refine AO.opG rfl rfl rfl (fun hp => zu 42 rfl (by exact hp)) ?_
 refine AO.opG rfl rfl rfl (fun hp => yL 43 rfl (by exact hp)) ?_
 refine AO.opG rfl rfl rfl (fun hp => yM 44 rfl (by exact hp)) ?_
 refine zB ?_
 refine za ?_
 refine zE ?_
 refine wq ?_
 refine AO.opG rfl rfl rfl (fun hp => yL 49 rfl (by exact hp)) ?_
 refine AO.opG rfl rfl rfl (fun hp => yM 50 rfl (by exact hp)) ?_
 refine zB (zD (zl ?_))
 refine yn (fun h => ?_) (fun h => ?_) <;> (try simp only [wN] at h)
 ·skip
  have e : decide (ValM ⟨ty, code, id, tok, opts, pay⟩) = false := by
   refine decide_eq_false fun hk => ?_
   obtain ⟨⟨⟨a1, a2, a3, a4, a5⟩, ⟨b1, b2, b3, b4⟩, -, -, -, b5⟩, -⟩ := hk
   simp only at *
   omega
  refine zx (zm ?_)
  refine zc (zD (zl (y1 (xi ?_))))
  refine xK rfl rfl ⟨_, List.nil_sublist _, .nil⟩ (⟨congrArg (fun z => AV.val (.bool z)) e.symm, rfl⟩)
 have hq : IntKind.i64.wrap (code.tdiv 32) = code / 32 := by rw [cls_div (by omega), wI64 (by omega)]
 refine yN (zl (zx (zm ?_)))
 refine zn ?_
 refine zo ?_
 refine wI (O.quo rfl rfl rfl (by omega) (by rfl)) ?_
 refine zc (zD (zl (zx (zx (zm ?_)))))
 refine za ?_
 refine yX ?_
 refine za ?_
 refine yu ?_
 refine AO.opG rfl rfl rfl (fun hp => xO 59 rfl (by exact hp)) ?_
 refine zN ?_
 refine za ?_
 refine yu ?_
 refine AO.opG rfl rfl rfl (fun hp => xO 63 rfl (by exact hp)) ?_
 refine zN ?_
 refine za ?_
 refine yu ?_
 refine AO.opG rfl rfl rfl (fun hp => xO 67 rfl (by exact hp)) ?_
 refine zN (zD (zl ?_))
 refine yn (fun h2 => ?_) (fun h2 => ?_) <;> (try simp only [wN] at h2)
 ·skip
  have e : decide (ValM ⟨ty, code, id, tok, opts, pay⟩) = false := by
   refine decide_eq_false fun hk => ?_
   obtain ⟨⟨⟨a1, a2, a3, a4, a5⟩, -⟩, -⟩ := hk
   simp only [ClsOk] at *
   rw [hq] at h2
   omega
  refine zx (zm ?_)
  refine zc (zD (zl (y1 (xi ?_))))
  refine xK rfl rfl ⟨_, List.nil_sublist _, .nil⟩ (⟨congrArg (fun z => AV.val (.bool z)) e.symm, rfl⟩)
 refine yN (zl (zx (zm ?_)))
 refine zc (zD (zl (zx (zx (zm ?_)))))
 refine zn ?_
 refine zo ?_
 refine zZ ?_
 refine za (zD (zl (yS ?_)))
 refine zg [(1, _), (71, _), (72, _)] (fun nn E H => ∃ (k : Nat), (k ≤ opts.length) ∧ (AscO 0 (opts.take k)) ∧ nn = opts.length - k ∧ E = [(4, .val (.int .i64 (lastO 0 (opts.take k)))), (73, .val (.int .i64 (k : Int)))] ∧ H = [.blk B1 29 6 [.val (.int .i64 ty), .val (.int .i64 code), .val (.int .i64 id), roB tok, roO opts, roB pay]]) _ (⟨0, by omega, trivial, rfl, rfl, rfl⟩) ?_
 rintro nn E H ⟨k, h1, ha, rfl, rfl, rfl⟩
 dsimp only [List.cons_append, List.nil_append]
 refine zx (zm ?_)
 refine zH (zD (zl (zx ?_)))
 refine yn (fun h3 => ?_) (fun h3 => ?_) <;> (try simp only [wN] at h3)
 ·skip
  have hk : k < opts.length := by omega
  refine yN (zl (zx (yS (zx (zm ?_)))))
  refine yh ?_
  refine y0 ?_
  refine zd ?_
  intro B2
  refine zb 0 rfl rfl rfl rfl rfl rfl (zD (zl (zx (zx (zm ?_)))))
  refine zn ?_
  refine zo ?_
  refine za ?_
  refine zH ?_
  refine za ?_
  refine zE ?_
  refine AO.opG rfl rfl rfl (fun hp => zu 82 rfl (by exact hp)) ?_
  refine AO.opG rfl rfl rfl (fun hp => yM 83 rfl (by exact hp)) ?_
  refine zB ?_
  refine za ?_
  refine zE ?_
  refine AO.opG rfl rfl rfl (fun hp => zu 87 rfl (by exact hp)) ?_
  refine AO.opG rfl rfl rfl (fun hp => yL 88 rfl (by exact hp)) ?_
  refine AO.opG rfl rfl rfl (fun hp => yM 89 rfl (by exact hp)) ?_
  refine zB (zD (zl ?_))
  refine yn (fun h4 => ?_) (fun h4 => ?_) <;> (try simp only [wN] at h4)
  ·skip
   have e : decide (ValM ⟨ty, code, id, tok, opts, pay⟩) = false := by
    refine decide_eq_false fun hk' => ?_
    obtain ⟨⟨-, -, a1, -⟩, -⟩ := hk'
    have := AscO_at a1 hk
    simp only at this
    omega
   refine zx (zm ?_)
   refine zc (zD (zl (y1 (xi ?_))))
   refine wb (xi ?_)
   refine AQ.loopR ?_
   refine wb (xi ?_)
   refine xK rfl rfl ⟨_, List.nil_sublist _, .nil⟩ (⟨congrArg (fun z => AV.val (.bool z)) e.symm, rfl⟩)
  have ha2 : AscO 0 (opts.take (k + 1)) := by
   rw [take_snoc Opt.none hk, AscO_snoc]
   exact ⟨ha, h4.1.1, h4.1.2, h4.2⟩
  have hl2 : lastO 0 (opts.take (k + 1)) = (oat opts k).num := by rw [take_snoc Opt.none hk, lastO_snoc]
  refine yN (zl (zm ?_))
  refine zn ?_
  refine zo ?_
  refine zc (zD (y5 (zl (zm ?_))))
  refine zr ?_
  refine za (zD ?_)
  refine zF _ _ _ (by omega) (⟨k + 1, by omega, ha2, rfl, by rw [hl2], rfl⟩)
 obtain rfl : k = opts.length := by omega
 rw [List.take_length] at ha
 have hw : IntKind.i64.wrap ((tok.length : Int) + opts.length + pay.length) = (tok.length : Int) + opts.length + pay.length := wI64 (by omega)
 refine xD ?_
 refine xr ?_
 refine xA ?_
 refine yZ (zl (zx (zx (zm ?_))))
 refine zn ?_
 refine zo ?_
 refine yd ?_
 refine za ?_
 refine zE ?_
 refine AO.opG rfl rfl rfl (fun hp => zu 99 rfl (by exact hp)) ?_
 refine AO.opG rfl rfl rfl (fun hp => yL 100 rfl (by exact hp)) ?_
 refine zE ?_
 refine AO.opG rfl rfl rfl (fun hp => zu 102 rfl (by exact hp)) ?_
 refine AO.opG rfl rfl rfl (fun hp => yL 103 rfl (by exact hp)) ?_
 refine AO.opG rfl rfl rfl (fun hp => wL 101 rfl (by exact hp) (wL 104 rfl (by exact hp) zA)) ?_
 refine zE ?_
 refine AO.opG rfl rfl rfl (fun hp => zu 106 rfl (by exact hp)) ?_
 refine AO.opG rfl rfl rfl (fun hp => yL 107 rfl (by exact hp)) ?_
 refine AO.opG rfl rfl rfl (fun hp => wL 105 rfl (by exact hp) (wL 108 rfl (by exact hp) zA)) ?_
 refine AO.opG rfl rfl rfl (fun hp => yM 109 rfl (by exact hp)) ?_
 refine zN ?_
 refine za ?_
 refine zE ?_
 refine AO.opG rfl rfl rfl (fun hp => zu 113 rfl (by exact hp)) ?_
 refine AO.opG rfl rfl rfl (fun hp => y9 114 rfl (by exact hp)) ?_
 refine AO.opG rfl rfl rfl (fun hp => wL 115 rfl (by exact hp) ze) ?_
 refine zE ?_
 refine AO.opG rfl rfl rfl (fun hp => zu 117 rfl (by exact hp)) ?_
 refine AO.opG rfl rfl rfl (fun hp => xO 118 rfl (by exact hp)) ?_
 refine AO.opG rfl rfl rfl (fun hp => wl 116 rfl (by exact hp)) ?_
 refine zB (zD (zl ?_))
 refine yn (fun h5 => ?_) (fun h5 => ?_) <;> (try simp only [wN] at h5)
 ·skip
  have e : decide (ValM ⟨ty, code, id, tok, opts, pay⟩) = false := by
   refine decide_eq_false fun hk' => ?_
   obtain ⟨⟨-, -, -, a1, a3, a2⟩, -⟩ := hk'
   simp only at a1 a2 a3
   omega
  refine zx (zm ?_)
  refine zc (zD (zl (y1 (xi ?_))))
  refine xK rfl rfl ⟨_, List.nil_sublist _, .nil⟩ (⟨congrArg (fun z => AV.val (.bool z)) e.symm, rfl⟩)
 have hm : OkM ⟨ty, code, id, tok, opts, pay⟩ := by
  refine ⟨⟨by simp only; omega, by simp only; omega, by simp only; omega, by simp only; omega, ?_⟩, ⟨by simp only; omega, by simp only; omega, by simp only; omega, by simp only; omega⟩, ha, ?_, ?_, by simp only; omega⟩
  ·rw [hq] at h2
   unfold ClsOk; simp only; omega
  ·simp only; omega
  simp only; omega
 have hl := raw_len hm
 refine yN (zl (zx (zm ?_)))
 refine zM ?_
 refine wI (xl rfl Tryz.func165 rfl rfl rfl (raw_fn ⟨ty, code, id, tok, opts, pay⟩ hm)) ?_
 refine zZ ?_
 refine wG ?_
 refine zc (zD (zl (y1 ?_)))
 have e : decide (ValM ⟨ty, code, id, tok, opts, pay⟩) = decide (((raw ⟨ty, code, id, tok, opts, pay⟩).length : Int) ≤ 4096) := dec_eq (by simp [ValM, hm])
 refine xK rfl rfl ⟨_, List.nil_sublist _, .nil⟩ (⟨congrArg (fun z => AV.val (.bool z)) e.symm, rfl⟩)
theorem renc_fn (m : Msg) : Sp Tryz.prog 120 [aggM m] [] (Is (.tup [roB (encR m).1, .val (.int .i64 (encR m).2)])) := by
 refine yv Tryz.func120 _ Tryz.ntmps120 (fun w0 R0 => ?_)
 refine zx (zm ?_)
 refine ya ?_
 intro B1
 refine zc ?_
 refine zc (zD (zl (zx (zx (zm ?_)))))
 refine zM ?_
 refine wI (xl rfl Tryz.func164 rfl rfl rfl (rvalid_fn m)) ?_
 refine xu (zD (zl ?_))
 refine yn (fun h => ?_) (fun h => ?_) <;> (try simp only [wN] at h)
 ·skip
  have e : encR m = ([], 1) := encR_f h
  refine zx (zm ?_)
  refine zc ?_
  refine zc (zD (zl (y1 (xi ?_))))
  refine FnQ.coe yx ye (⟨congrArg (fun z : List UInt8 × Int => AV.tup [roB z.1, .val (.int .i64 z.2)]) e.symm, rfl⟩)
 have hm : OkM m := h.1
 have e : encR m = (raw m, 0) := encR_t h
 refine yN (zl (zx (zm ?_)))
 refine zM ?_
 refine wI (xl rfl Tryz.func165 rfl rfl rfl (raw_fn m hm)) ?_
 refine zc ?_
 refine zc (zD (zl (y1 ?_)))
 refine AQ.ret2 rfl rfl rfl ⟨_, List.nil_sublist _, .nil⟩ (⟨congrArg (fun z : List UInt8 × Int => AV.tup [roB z.1, .val (.int .i64 z.2)]) e.symm, rfl⟩)
end Go.Proofs.YtojomcdjcpmnkaaGreat.By

namespace Go.Proofs.YtojomcdjcpmnkaaGreat.By
open Go.RowKit L A
set_option linter.unusedVariables false
set_option maxRecDepth 20000
set_option linter.unusedSimpArgs false
attribute [local irreducible] AW AQ AO

theorem clone_fn (l : List UInt8) (hl : l.length ≤ 140737488355328) : Sp Tryz.prog 138 [roB l] [] (Is (roB l)) := by
 refine yv Tryz.func138 _ Tryz.ntmps138 (fun w0 R0 => ?_)
 refine zx (zm ?_)
 refine zc (zD (zl (zx (zx (zm ?_)))))
 refine za ?_
 refine AO.opN (O.eqlNil rfl rfl rfl) rfl rfl rfl ?_
 rintro _ _ ⟨c, rfl, rfl, hnil⟩
 simp only [List.cons_append, List.nil_append]
 refine zD (zl ?_)
 refine yn (fun h => ?_) (fun h => ?_)
 ·skip
  obtain rfl : l = [] := List.eq_nil_of_length_eq_zero (hnil (by simp [h]))
  refine zx (zm ?_)
  refine zc (zD (zl (y1 (xi ?_))))
  refine AQ.g ?_
  refine G.nilRo 2 rfl ?_
  refine AQ.u ?_
  refine xK rfl rfl ⟨_, List.nil_sublist _, .nil⟩ (⟨rfl, rfl⟩)
 refine yN (zl (zx (zm ?_)))
 refine ww (O.buildSlice0 rfl) ?_
 intro V hV
 refine za ?_
 refine zy 0 rfl rfl rfl rfl (by rfl) (by rfl) rfl rfl rfl (by exact SrcA.ro TyD.ax (by (simp; done)) (Nat.le_of_ble_eq_true rfl)) (by (simp [AV.cells, AV.one, *]; done)) (by (unfold maxLen; omega)) ?_
 intro V hV
 refine zc (zD (zl (y1 ?_)))
 refine AQ.g ?_
 refine yU 0 [2] ?_
 refine AQ.u ?_
 dsimp only [List.map, List.eraseIdx, List.cons_append, List.nil_append]
 refine xK rfl rfl ⟨_, List.nil_sublist _, .nil⟩ (⟨by simp [roB], rfl⟩)
def SmM (m : Msg) : Prop := m.tok.length ≤ 140737488355328 ∧ m.pay.length ≤ 140737488355328 ∧ m.opts.length ≤ 1000000 ∧ ∀ o ∈ m.opts, o.val.length ≤ 140737488355328
theorem SmM.at {m : Msg} (h : SmM m) {k : Nat} (hk : k < m.opts.length) : (oat m.opts k).val.length ≤ 140737488355328 := h.2.2.2 _ (getD_mem _ hk)
end Go.Proofs.YtojomcdjcpmnkaaGreat.By

namespace Go.Proofs.YtojomcdjcpmnkaaGreat.By
open Go.RowKit L A
set_option linter.unusedVariables false
set_option maxRecDepth 20000
set_option linter.unusedSimpArgs false
attribute [local irreducible] AW AQ AO
def bsA (vs : List (List UInt8)) : List AV := vs.map roB
def roBs (vs : List (List UInt8)) : AV := .ro false vs.length (bsA vs)
def allV (os : List Opt) (n : Int) : List (List UInt8) := (os.filter fun o => o.num == n).map Opt.val
theorem allV_snoc (os : List Opt) (o : Opt) (n : Int) : allV (os ++ [o]) n = if o.num = n then allV os n ++ [o.val] else allV os n := by
 unfold allV
 rw [List.filter_append, List.map_append]
 by_cases h : o.num = n <;> simp [h]
theorem bsA_snoc (vs : List (List UInt8)) (v : List UInt8) : bsA (vs ++ [v]) = bsA vs ++ [roB v] := by simp [bsA]
@[simp] theorem bsA_len (vs : List (List UInt8)) : (bsA vs).length = vs.length := by simp [bsA]
abbrev vat (vs : List (List UInt8)) (k : Nat) : List UInt8 := vs.getD k []
theorem bsA_at {vs : List (List UInt8)} {k : Nat} (h : k < vs.length) {j : Nat} (hj : j = k) : (bsA vs)[j]? = some (roB (vat vs k)) := by
 subst hj; simp [bsA, h, vat]
theorem allV_len (os : List Opt) (n : Int) : (allV os n).length ≤ os.length := by
 unfold allV; rw [List.length_map]; exact List.length_filter_le _ _

set_option maxHeartbeats 4000000 in
theorem all_row (m : Msg) (n : Int) (h3 : m.opts.length ≤ 1000000) (hat : ∀ o ∈ m.opts, o.val.length ≤ 140737488355328) : Sp Tryz.prog 71 [aggM m, .val (.int .i64 n)] [] (NewRow 22 1 (allV m.opts n).length (bsA (allV m.opts n))) := by
 refine yv Tryz.func71 _ Tryz.ntmps71 (fun w0 R0 => ?_)
 refine zx (zm ?_)
 refine ya ?_
 intro B1
 refine zc (zD (zl (zx (zm ?_))))
 refine zc (zD (zl (zx (zx (zm ?_)))))
 refine zn ?_
 refine zo ?_
 refine zZ ?_
 refine za (zD (zl (yS ?_)))
 refine AW.g ?_
 refine G.nilRow 22 1 ?_
 refine AW.u ?_
 refine zg [(1, _), (9, _), (10, _)] (fun nn E H => ∃ (k : Nat) (V : Value), (k ≤ m.opts.length) ∧ (V.oneCell' = true) ∧ nn = m.opts.length - k ∧ E = [(5, .val V), (11, .val (.int .i64 (k : Int)))] ∧ H = [.row V 22 1 (allV (m.opts.take k) n).length (bsA (allV (m.opts.take k) n)), .blk B1 29 6 [.val (.int .i64 m.ty), .val (.int .i64 m.code), .val (.int .i64 m.id), roB m.tok, roO m.opts, roB m.pay]]) _ (⟨0, _, by omega, rfl, rfl, rfl, rfl⟩) ?_
 rintro nn E H ⟨k, V, h4, hV, rfl, rfl, rfl⟩
 dsimp only [List.cons_append, List.nil_append]
 have hl := allV_len (m.opts.take k) n
 rw [List.length_take] at hl
 refine zx (zm ?_)
 refine zH (zD (zl (zx ?_)))
 refine yn (fun h5 => ?_) (fun h5 => ?_) <;> (try simp only [wN] at h5)
 ·skip
  have hk : k < m.opts.length := by omega
  have hv : (oat m.opts k).val.length ≤ 140737488355328 := hat _ (getD_mem Opt.none hk)
  have hsc := allV_snoc (m.opts.take k) (oat m.opts k) n
  rw [← take_snoc Opt.none hk] at hsc
  refine yN (zl (zx (yS (zx (zm ?_)))))
  refine yh ?_
  refine y0 ?_
  refine zd ?_
  intro B2
  refine zb 0 rfl rfl rfl rfl rfl rfl (zD (zl (zx (zm ?_))))
  refine zn ?_
  refine zo ?_
  refine za ?_
  refine yd (zD (zl ?_))
  refine yn (fun h6 => ?_) (fun h6 => ?_) <;> (try simp only [wN] at h6)
  ·skip
   rw [if_pos h6] at hsc
   refine zm ?_
   refine za ?_
   refine zn ?_
   refine zo ?_
   refine ww (O.appendNil rfl (by rfl) (by rfl) rfl rfl (by exact SrcA.ro TyD.ax (by (simp; done)) (Nat.le_of_ble_eq_true rfl)) (by (simp [AV.cells, AV.one, *]; done)) (by (unfold maxLen; omega)) (by omega)) ?_
   intro V3 hV3
   refine AO.g ?_
   refine yU 0 [22] ?_
   refine AO.u ?_
   dsimp only [List.map, List.eraseIdx, List.cons_append, List.nil_append]
   refine zK ?_
   intro B4
   refine AO.g ?_
   refine wB 0 23 rfl rfl ⟨Nat.le_refl _, by unfold maxLen; omega⟩ ?_
   refine xF 23 ?_
   refine AO.u ?_
   dsimp only [List.eraseIdx]
   refine zy 1 rfl rfl rfl rfl (by rfl) (by rfl) rfl rfl rfl (by exact SrcA.ro TyD.ax (by rfl) (Nat.le_of_ble_eq_true rfl)) (by rfl) (by (unfold maxLen; omega)) ?_
   intro V5 hV5
   refine zc (zD (y5 (zl (zm ?_))))
   refine zr ?_
   refine za (zD ?_)
   refine zF _ _ _ (by omega) (⟨k + 1, _, by omega, ‹_›, rfl, rfl, by rw [hsc, bsA_snoc, List.length_append]⟩)
  rw [if_neg h6] at hsc
  refine yN (y5 (zl (zm ?_)))
  refine zr ?_
  refine za (zD ?_)
  refine zF _ _ _ (by omega) (⟨k + 1, _, by omega, hV, rfl, rfl, by rw [hsc]⟩)
 obtain rfl : k = m.opts.length := by omega
 rw [List.take_length]
 refine xD ?_
 refine xr ?_
 refine xA ?_
 refine yZ (zl (zx (zm ?_)))
 refine za ?_
 refine zc (zD (zl (y1 ?_)))
 refine xK rfl rfl ⟨_, by repeat (first | exact List.Sublist.slnil | refine List.Sublist.cons_cons _ ?_ | refine List.Sublist.cons _ ?_), List.Perm.refl _⟩ (⟨_, rfl, hV, rfl⟩)

set_option maxHeartbeats 4000000 in
theorem with_fn (m : Msg) (os : List Opt) (h1 : m.tok.length ≤ 140737488355328) (h2 : m.pay.length ≤ 140737488355328) (h3 : os.length ≤ 1000000) (hat : ∀ o ∈ os, o.val.length ≤ 140737488355328) :
  Sp Tryz.prog 75 [aggM m, roO os] [] (Is (aggM ⟨m.ty, m.code, m.id, m.tok, os, m.pay⟩)) := by
 refine yv Tryz.func75 _ Tryz.ntmps75 (fun w0 R0 => ?_)
 refine zx (zm ?_)
 refine ya ?_
 intro B1
 refine zd ?_
 intro B2
 refine zD (zl (zx ?_))
 refine yj 7 ?_
 simp only [List.take_succ_cons, List.take_zero, List.drop_succ_cons, List.drop_zero]
 refine yw ?_
 refine zU ?_
 refine FA.opN (O.appendNil rfl (by rfl) (by rfl) rfl rfl (by exact SrcA.ro TyD.ax (by (simp; done)) (Nat.le_of_ble_eq_true rfl)) (by (simp [AV.cells, AV.one, *]; done)) (by (unfold maxLen; omega)) (by omega)) rfl rfl rfl rfl ?_
 refine yw ?_
 refine zU ?_
 refine FA.opN (O.appendNil rfl (by rfl) (by rfl) rfl rfl (by exact SrcA.ro TyD.ax (by (simp; done)) (Nat.le_of_ble_eq_true rfl)) (by (simp [AV.cells, AV.one, *]; done)) (by (unfold maxLen; omega)) (by omega)) rfl rfl rfl rfl ?_
 refine yw ?_
 refine wg ?_
 simp only [chosen, List.nil_append, List.cons_append, List.append_nil]
 rintro _ _ ⟨V3, rfl, hV3, rfl⟩
 rintro _ _ ⟨V4, rfl, hV4, rfl⟩
 simp only [List.cons_append, List.nil_append]
 refine AO.g ?_
 refine yU 1 [10] ?_
 refine AO.u ?_
 dsimp only [List.map, List.eraseIdx, List.cons_append, List.nil_append]
 refine AO.g ?_
 refine yU 0 [13] ?_
 refine AO.u ?_
 dsimp only [List.map, List.eraseIdx, List.cons_append, List.nil_append]
 refine zb 1 rfl rfl rfl rfl rfl rfl ?_
 refine zn ?_
 refine zb 1 rfl rfl rfl rfl rfl rfl (zD (zl (zx (zm ?_))))
 refine zc (zD (zl (zx (zx (zm ?_)))))
 refine za ?_
 refine zZ ?_
 refine za (zD (zl (yS ?_)))
 refine AW.g ?_
 refine G.nilRow 96 2 ?_
 refine AW.u ?_
 refine zg [(2, _), (4, _), (16, _), (17, _)] (fun nn E H => ∃ (k : Nat) (V : Value), (k ≤ os.length) ∧ (V.oneCell' = true) ∧ nn = os.length - k ∧ E = [(5, .val V), (18, .val (.int .i64 (k : Int)))] ∧ H = [.row V 96 2 k (optsA (os.take k)), .blk B2 29 6 [.val (.int .i64 0), .val (.int .i64 0), .val (.int .i64 0), .val (.slice none 0 0), .val (.slice none 0 0), .val (.slice none 0 0)], .blk B1 29 6 [.val (.int .i64 m.ty), .val (.int .i64 m.code), .val (.int .i64 m.id), roB m.tok, roO m.opts, roB m.pay]]) _ (⟨0, _, by omega, rfl, rfl, rfl, rfl⟩) ?_
 rintro nn E H ⟨k, V, h4, hV, rfl, rfl, rfl⟩
 dsimp only [List.cons_append, List.nil_append]
 refine zx (zm ?_)
 refine zH (zD (zl (zx ?_)))
 refine yn (fun h5 => ?_) (fun h5 => ?_) <;> (try simp only [wN] at h5)
 ·skip
  have hk : k < os.length := by omega
  have hv : (oat os k).val.length ≤ 140737488355328 := hat _ (getD_mem Opt.none hk)
  have hsc : optsA (os.take (k + 1)) = optsA (os.take k) ++ [.val (.int .i64 (oat os k).num), roB (oat os k).val] := by rw [take_snoc Opt.none hk, optsA_snoc]
  refine yN (zl (zx (yS (zx (zm ?_)))))
  refine yh ?_
  refine y0 ?_
  refine zd ?_
  intro B5
  refine zb 0 rfl rfl rfl rfl rfl rfl (zD (zl ?_))
  refine AW.regionM [(0, false), (1, false), (2, false), (3, false), (4, false), (5, true), (6, false), (7, false), (8, true), (9, true)] (by kernel_rfl) (by kernel_rfl) (by exact (by exact splitRow 5 1 rfl rfl splitNil)) ?_
  dsimp only [List.eraseIdx]
  refine xo ?_
  refine xP ?_
  refine x3 ?_
  refine xP ?_
  refine x3 ?_
  refine wk _ (fun w0 R0 => ?_)
  refine ww (O.appendNil rfl (by rfl) (by rfl) rfl rfl (by exact SrcA.ro TyD.ax (by (simp; done)) (Nat.le_of_ble_eq_true rfl)) (by (simp [AV.cells, AV.one, *]; done)) (by (unfold maxLen; omega)) (by omega)) ?_
  intro V6 hV6
  refine AO.g ?_
  refine yU 0 [27] ?_
  refine AO.u ?_
  dsimp only [List.map, List.eraseIdx, List.cons_append, List.nil_append]
  refine AM.ok ?_
  dsimp only [putE]
  refine wM rfl (y4 rfl rfl rfl) ?_
  refine wM rfl (OpW.frz (z7 rfl rfl rfl) (by (unfold maxLen; omega))) ?_
  refine wk _ (fun w0 R0 => ?_)
  refine zy 0 rfl rfl rfl rfl (by rfl) (by rfl) rfl rfl rfl (by exact SrcA.ro TyD.ax (by rfl) (Nat.le_of_ble_eq_true rfl)) (by rfl) (by (unfold maxLen; omega)) ?_
  intro V7 hV7
  refine AM.ok ?_
  dsimp only [putE]
  refine wk _ (fun w0 R0 => ?_)
  refine zc ?_
  refine AM.ok ?_
  dsimp only [putE]
  refine AM.nil ?_
  dsimp only [List.cons_append, List.nil_append]
  refine y5 (zl (zm ?_))
  refine zr ?_
  refine za (zD ?_)
  refine xe _ _ _ (by omega) (⟨k + 1, _, by omega, ‹_›, rfl, rfl, by rw [hsc]⟩)
 obtain rfl : k = os.length := by omega
 rw [List.take_length]
 refine AW.g ?_
 refine z6 0 [5] ?_
 refine AW.u ?_
 try dsimp only [List.map, List.eraseIdx, List.cons_append, List.nil_append]
 refine xD ?_
 refine xr ?_
 refine xA ?_
 refine yZ (zl (zx (zm ?_)))
 refine za ?_
 refine zn ?_
 refine zb 1 rfl rfl rfl rfl rfl rfl (zD (zl (zx (zm ?_))))
 refine zG ?_
 refine zb 0 rfl rfl rfl rfl rfl rfl (zD (zl (y1 ?_)))
 refine AQ.retCell rfl rfl (by repeat (exact List.Mem.head _)) (by (dsimp only [List.set, List.cons_append, List.nil_append, List.take, List.drop]; rfl)) rfl ⟨_, List.nil_sublist _, .nil⟩ (⟨rfl, rfl⟩)
end Go.Proofs.YtojomcdjcpmnkaaGreat.By

namespace Go.Proofs.YtojomcdjcpmnkaaGreat.By
open Go.RowKit L A
set_option linter.unusedVariables false
set_option maxRecDepth 20000
set_option linter.unusedSimpArgs false
attribute [local irreducible] AW AQ AO
theorem aadR_1 {kid : List UInt8} {piv : Int} (h : 7 < kid.length) : aadR kid piv = ([], 1) := if_pos h
theorem aadR_2 {kid : List UInt8} {piv : Int} (h : ¬7 < kid.length) (h2 : piv < 0 ∨ 1099511627775 < piv) : aadR kid piv = ([], 8) := (if_neg h).trans (if_pos h2)
theorem aadR_3 {kid : List UInt8} {piv : Int} (h : ¬7 < kid.length) (h2 : ¬(piv < 0 ∨ 1099511627775 < piv)) : aadR kid piv = (aadB kid (pivB piv), 0) := (if_neg h).trans (if_neg h2)
set_option maxHeartbeats 4000000 in
theorem raad_fn (kid : List UInt8) (piv : Int) : Sp Tryz.prog 67 [roB kid, .val (.int .i64 piv)] [] (Is (resN (aadR kid piv))) := by
 refine yv Tryz.func67 _ Tryz.ntmps67 (fun w0 R0 => ?_)
 refine zx (zm ?_)
 refine zc ?_
 refine zc (zD (zl (zx (zx (zm ?_)))))
 refine za ?_
 refine zZ ?_
 refine y7 (zD (zl ?_))
 refine yn (fun h1 => ?_) (fun h1 => ?_) <;> (try simp only [wN] at h1)
 ·skip
  rw [aadR_1 (by omega)]
  refine zx (zm ?_)
  refine zc ?_
  refine zc (zD (zl (y1 (xi ?_))))
  refine FnQ.coe yx ye (⟨rfl, rfl⟩)
 have hk : kid.length ≤ 7 := by omega
 refine yN (zl (zx (zx (zm ?_))))
 refine za ?_
 refine zH ?_
 refine za ?_
 refine yu ?_
 refine AO.opG rfl rfl rfl (fun hp => yM 13 rfl (by exact hp)) ?_
 refine zB (zD (zl ?_))
 refine yn (fun h2 => ?_) (fun h2 => ?_) <;> (try simp only [wN] at h2)
 ·skip
  rw [aadR_2 (by omega) (by omega)]
  refine zx (zm ?_)
  refine zc ?_
  refine zc (zD (zl (y1 (xi ?_))))
  refine FnQ.coe yx ye (⟨rfl, rfl⟩)
 rw [aadR_3 (by omega) (by omega)]
 have hpl := pivB_len piv
 have hxl := aadX_len hk hpl
 have hxe := aadI_enc (kid := kid) (pb := pivB piv) (by omega) (by omega)
 have hoe := aadO_enc hk hpl
 have hol : (aadB kid (pivB piv)).length ≤ 100000 := by
  rw [← hoe, enc_a (by show 3 < 24; omega), arrB, head_lt (by show 3 < 24; omega)]
  simp only [aadO, List.map_cons, List.map_nil, List.flatten_cons, List.flatten_nil, List.append_nil, List.length_append, List.length_cons, List.length_nil]
  rw [enc_b (k := 3) (m := 3) (b := encT) rfl (.inr rfl) (by decide), enc_b (k := 2) (m := 2) rfl (.inl rfl) (by simp), enc_b (k := 2) (m := 2) rfl (.inl rfl) hxl, head_lt hxl]
  simp [head_lt, encT]; omega
 have hl1 := rlist_fn 0 [.mk 0 ((10 : Nat) : Int) [] []] (by simp) (fun y hy => by obtain rfl := List.mem_singleton.1 hy; exact smIt_leaf (by simp))
 have hl5 := rlist_fn 1 (aadI kid (pivB piv)) (by show 5 ≤ 1000; omega) (by
  intro y hy
  simp only [aadI, List.mem_cons, List.not_mem_nil, or_false] at hy
  rcases hy with rfl | rfl | rfl | rfl | rfl
  ·exact smIt_leaf (by simp)
  ·exact ⟨by simp, by simp, fun z hz => by obtain rfl := List.mem_singleton.1 hz; exact smIt_leaf (by simp)⟩
  ·exact smIt_leaf (by omega)
  ·exact smIt_leaf (by omega)
  exact smIt_leaf (by simp))
 have hl3 := rlist_fn 0 (aadO (aadX kid (pivB piv))) (by show 3 ≤ 1000; omega) (by
  intro y hy
  simp only [aadO, List.mem_cons, List.not_mem_nil, or_false] at hy
  rcases hy with rfl | rfl | rfl
  ·exact smIt_leaf (by decide)
  ·exact smIt_leaf (by simp)
  exact smIt_leaf (by omega))
 have hr5 := rawI_fn 2 (.mk 4 0 [] (aadI kid (pivB piv))) (.inr ⟨rfl, rfl, rfl, by show 5 < 24; omega, by
  intro y hy
  simp only [aadI, List.mem_cons, List.not_mem_nil, or_false] at hy
  rcases hy with rfl | rfl | rfl | rfl | rfl
  ·exact .inl ⟨rfl, .inl ⟨.inl rfl, by omega, by omega, rfl⟩⟩
  ·exact .inr ⟨rfl, rfl, rfl, by simp, fun z hz => by obtain rfl := List.mem_singleton.1 hz; exact ⟨rfl, .inl ⟨.inl rfl, by omega, by omega, rfl⟩⟩⟩
  ·exact .inl ⟨rfl, .inr ⟨.inl rfl, rfl, by omega⟩⟩
  ·exact .inl ⟨rfl, .inr ⟨.inl rfl, rfl, by omega⟩⟩
  exact .inl ⟨rfl, .inr ⟨.inl rfl, rfl, by simp⟩⟩⟩) (by rw [hxe]; omega)
 have hr3 := rawI_fn 1 (.mk 4 0 [] (aadO (aadX kid (pivB piv)))) (.inr ⟨rfl, rfl, rfl, by show 3 < 24; omega, by
  intro y hy
  simp only [aadO, List.mem_cons, List.not_mem_nil, or_false] at hy
  rcases hy with rfl | rfl | rfl
  ·exact ⟨rfl, .inr ⟨.inr rfl, rfl, by decide⟩⟩
  ·exact ⟨rfl, .inr ⟨.inl rfl, rfl, by simp⟩⟩
  exact ⟨rfl, .inr ⟨.inl rfl, rfl, hxl⟩⟩⟩) (by rw [hoe]; exact hol)
 unfold RawSp at hr5 hr3
 rw [hxe] at hr5
 rw [hoe] at hr3
 generalize aadX kid (pivB piv) = x at *
 generalize aadB kid (pivB piv) = y at *
 rw [cells_mk] at hl1 hl5 hl3 hr5 hr3
 simp only [aadI, aadO, itsA, cells_leaf, cells_mk, List.append_nil, List.cons_append, List.nil_append, List.length_cons, List.length_nil, Nat.zero_add, Nat.reduceAdd] at hl1 hl5 hl3 hr5 hr3
 refine yN (zl (zx (zm ?_)))
 refine wI (xl rfl Tryz.func124 rfl rfl rfl (rint_fn _ ⟨by omega, by omega⟩)) ?_
 refine wI (xl rfl Tryz.func124 rfl rfl rfl (rint_fn _ ⟨by omega, by omega⟩)) ?_
 refine zK ?_
 intro B1
 refine AO.g ?_
 refine wB 0 18 rfl rfl ⟨Nat.le_refl _, by unfold maxLen; omega⟩ ?_
 refine xF 18 ?_
 refine AO.u ?_
 dsimp only [List.eraseIdx]
 refine wI (xl rfl Tryz.func123 rfl rfl rfl hl1) ?_
 refine za ?_
 refine wI (xl rfl Tryz.func125 rfl rfl rfl (rbyt_fn _ (by omega))) ?_
 refine za ?_
 refine wI (xl rfl Tryz.func74 rfl rfl rfl (rbytes_fn _)) ?_
 refine wI (xl rfl Tryz.func125 rfl rfl rfl (rbyt_fn _ (by omega))) ?_
 refine wI (O.callC rfl Tryz.func125 rfl rfl rfl (rbyt_fn [] (by simp)) (by (repeat (first | exact CoeL.nil | refine CoeL.cons Coe.nil ?_)); done)) ?_
 refine yD ?_
 intro B2
 refine AO.g ?_
 refine wB 0 26 rfl rfl ⟨Nat.le_refl _, by unfold maxLen; omega⟩ ?_
 refine xF 26 ?_
 refine AO.u ?_
 dsimp only [List.eraseIdx]
 refine wI (xl rfl Tryz.func123 rfl rfl rfl hl5) ?_
 refine wI (xl rfl Tryz.func122 rfl rfl rfl hr5) ?_
 refine zc (zD (zl (zx (zm ?_))))
 refine wI (xl rfl Tryz.func126 rfl rfl rfl rtxtE_fn) ?_
 refine wI (O.callC rfl Tryz.func125 rfl rfl rfl (rbyt_fn [] (by simp)) (by (repeat (first | exact CoeL.nil | refine CoeL.cons Coe.nil ?_)); done)) ?_
 refine za ?_
 refine wI (xl rfl Tryz.func125 rfl rfl rfl (rbyt_fn _ (by omega))) ?_
 refine yD ?_
 intro B3
 refine AO.g ?_
 refine wB 0 33 rfl rfl ⟨Nat.le_refl _, by unfold maxLen; omega⟩ ?_
 refine xF 33 ?_
 refine AO.u ?_
 dsimp only [List.eraseIdx]
 refine wI (xl rfl Tryz.func123 rfl rfl rfl hl3) ?_
 refine wI (xl rfl Tryz.func122 rfl rfl rfl hr3) ?_
 refine zc ?_
 refine zc (zD (zl (y1 ?_)))
 refine AQ.ret2 rfl rfl rfl ⟨_, List.nil_sublist _, .nil⟩ (⟨rfl, rfl⟩)
/-! ### The wire -/
theorem whead_fn (k n : Int) (hk : 0 ≤ k ∧ k ≤ 7) (hn : 0 ≤ n ∧ n < 24) : Sp Tryz.prog 151 [.val (.int .u8 k), .val (.int .u64 n)] [] (NewRow 5 1 1 (bytesA [u8 (32 * k + n)])) := by
 have e : k * 32 + n = ((u8 (32 * k + n)).toNat : Int) := by rw [u8_small (by omega)]; omega
 have e2 : splice (zerosA 1 (Value.int IntKind.u8 0)) (0 * 1) (AV.val (Value.int IntKind.u8 (k * 32 + n))).cells = bytesA [u8 (32 * k + n)] := by
  show [AV.val (.int .u8 (k * 32 + n))] = [AV.val (.int .u8 ((u8 (32 * k + n)).toNat : Int))]
  rw [← e]
 refine yv Tryz.func151 _ Tryz.ntmps151 (fun w0 R0 => ?_)
 refine zx (zm ?_)
 refine zc (zD (zl (zx (zm ?_))))
 refine za ?_
 refine wI (O.shlK 5 32 rfl rfl rfl rfl (by rfl) (by exact wU8 (by omega))) ?_
 refine zc (zD (zl (zx (yS (zx (zm ?_))))))
 refine za ?_
 refine wI (O.lss rfl rfl rfl (by exact bTrue (by omega))) ?_
 refine zc (zD (zl ?_))
 refine AW.condT rfl (zx (zm ?_))
 refine za ?_
 refine za ?_
 refine wI (O.conv rfl rfl (by exact wU8 (by omega))) ?_
 refine wI (O.or_ rfl rfl rfl (orU8 5 (m := 32) (by decide) (by omega) (by omega))) ?_
 refine zK ?_
 intro B1
 refine zc (zD (zl (y1 ?_)))
 refine wb (xi ?_)
 refine AQ.g ?_
 refine G.closeRow (n := 1) (cap := 1) 0 rfl rfl rfl (Nat.le_refl _) (by (unfold maxLen; omega)) ?_
 refine AQ.u ?_
 dsimp only [List.set]
 rw [e2]
 refine xK rfl rfl ⟨_, by repeat (first | exact List.Sublist.slnil | refine List.Sublist.cons_cons _ ?_), List.Perm.refl _⟩ (⟨_, rfl, rfl, rfl⟩)
theorem wint_fn (n : Nat) (hn : n < 24) : Sp Tryz.prog 110 [.val (.int .i64 (n : Int))] [] (Is (roB (natB n))) := by
 rw [natB, head_lt hn, show UInt8.ofNat (32 * 0 + n) = u8 (32 * 0 + (n : Int)) by rw [show 32 * 0 + (n : Int) = ((32 * 0 + n : Nat) : Int) by omega, u8_nat']]
 refine yv Tryz.func110 _ Tryz.ntmps110 (fun w0 R0 => ?_)
 refine zx (zm ?_)
 refine zc (zD (zl (zx (zx (zm ?_)))))
 refine za ?_
 refine wI (O.lss rfl rfl rfl (by exact bFalse (by omega))) (zD (zl ?_))
 refine AW.condF rfl (yN (zl (zx (zm ?_))))
 refine za ?_
 refine xh ?_
 refine ww (xl rfl Tryz.func151 rfl rfl rfl (whead_fn _ _ ⟨by omega, by omega⟩ ⟨by omega, by omega⟩)) ?_
 intro V1 hV1
 refine zc (zD (zl (y1 ?_)))
 refine AQ.g ?_
 refine z6 0 [2] ?_
 refine AQ.u ?_
 try dsimp only [List.map, List.eraseIdx, List.cons_append, List.nil_append]
 refine xK rfl rfl ⟨_, List.nil_sublist _, .nil⟩ (⟨rfl, rfl⟩)
theorem wstr_fn (b : List UInt8) (hb : b.length < 24) : Sp Tryz.prog 111 [roB b] [] (Is (roB (strB b))) := by
 have e1 : bytesA [u8 (32 * 2 + (b.length : Int))] ++ bytesA b = bytesA (strB b) := by
  rw [strB, head_lt hb, show u8 (32 * 2 + (b.length : Int)) = UInt8.ofNat (32 * 2 + b.length) by rw [show 32 * 2 + (b.length : Int) = ((32 * 2 + b.length : Nat) : Int) by omega, u8_nat']]; rfl
 have e2 : 1 + b.length = (strB b).length := by rw [strB, head_lt hb, List.length_append]; rfl
 refine yv Tryz.func111 _ Tryz.ntmps111 (fun w0 R0 => ?_)
 refine zx (zm ?_)
 refine zc (zD (zl (zx (zm ?_))))
 refine za ?_
 refine zZ ?_
 refine xh ?_
 refine ww (xl rfl Tryz.func151 rfl rfl rfl (whead_fn _ _ ⟨by omega, by omega⟩ ⟨by omega, by omega⟩)) ?_
 intro V1 hV1
 refine za ?_
 refine zy 0 rfl rfl rfl rfl (by rfl) (by rfl) rfl rfl rfl (by exact SrcA.ro TyD.ax (by (simp; done)) (Nat.le_of_ble_eq_true rfl)) (by (simp [AV.cells, AV.one, *]; done)) (by (unfold maxLen; omega)) ?_
 intro V2 hV2
 refine zc (zD (zl (y1 ?_)))
 rw [e1, e2]
 refine AQ.g ?_
 refine z6 0 [2] ?_
 refine AQ.u ?_
 try dsimp only [List.map, List.eraseIdx, List.cons_append, List.nil_append]
 refine xK rfl rfl ⟨_, List.nil_sublist _, .nil⟩ (⟨rfl, rfl⟩)
theorem wtxt_fn : Sp Tryz.prog 113 [.val (.string ⟨#[69, 110, 99, 114, 121, 112, 116, 48]⟩)] [] (Is (roB (txtB encT))) := by
 have e1 : bytesA [u8 (32 * 3 + 8)] ++ bytesA encT = bytesA (txtB encT) := rfl
 have z1 : (⟨#[69, 110, 99, 114, 121, 112, 116, 48]⟩ : ByteArray).size = 8 := rfl
 have z2 : (⟨#[69, 110, 99, 114, 121, 112, 116, 48]⟩ : ByteArray).data.toList.length = 8 := rfl
 have z3 : (⟨#[69, 110, 99, 114, 121, 112, 116, 48]⟩ : ByteArray).toList.length = 8 := by decide +kernel
 refine yv Tryz.func113 _ Tryz.ntmps113 (fun w0 R0 => ?_)
 refine zx (zm ?_)
 refine zc (zD (zl (zx (zm ?_))))
 refine za ?_
 refine wI (O.lenS rfl rfl) ?_
 refine xh ?_
 refine ww (xl rfl Tryz.func151 rfl rfl rfl (whead_fn 3 8 ⟨by omega, by omega⟩ ⟨by omega, by omega⟩)) ?_
 intro V1 hV1
 refine za ?_
 refine zy 0 rfl rfl rfl rfl (by rfl) (by rfl) rfl rfl rfl (by exact SrcA.str TyD.ax (by rfl)) (by rfl) (by (unfold maxLen; omega)) ?_
 intro V2 hV2
 refine zc (zD (zl (y1 ?_)))
 rw [show bytesA [u8 (32 * 3 + 8)] ++ List.map AV.val (byteCells ⟨#[69, 110, 99, 114, 121, 112, 116, 48]⟩) = bytesA (txtB encT) by kernel_rfl, show 1 + (⟨#[69, 110, 99, 114, 121, 112, 116, 48]⟩ : ByteArray).size = (txtB encT).length by rfl]
 refine AQ.g ?_
 refine z6 0 [2] ?_
 refine AQ.u ?_
 try dsimp only [List.map, List.eraseIdx, List.cons_append, List.nil_append]
 refine xK rfl rfl ⟨_, List.nil_sublist _, .nil⟩ (⟨rfl, rfl⟩)
theorem flat_take_le' (l : List (List UInt8)) (k : Nat) : (l.take k).flatten.length ≤ l.flatten.length := by
 conv => rhs; rw [← List.take_append_drop k l]
 rw [List.flatten_append, List.length_append]; omega
theorem flat_take_succ' (l : List (List UInt8)) {k : Nat} (h : k < l.length) : (l.take (k + 1)).flatten = (l.take k).flatten ++ vat l k := by
 rw [take_snoc [] h, List.flatten_append]; simp [vat]
theorem warr_fn (l : List (List UInt8)) (hl : l.length < 24) (hf : l.flatten.length ≤ 100000) : Sp Tryz.prog 109 [roBs l] [] (Is (roB (arrB l))) := by
 have ea : arrB l = u8 (32 * 4 + (l.length : Int)) :: l.flatten := by
  rw [arrB, head_lt hl, show u8 (32 * 4 + (l.length : Int)) = UInt8.ofNat (32 * 4 + l.length) by rw [show 32 * 4 + (l.length : Int) = ((32 * 4 + l.length : Nat) : Int) by omega, u8_nat']]; rfl
 rw [ea]
 refine yv Tryz.func109 _ Tryz.ntmps109 (fun w0 R0 => ?_)
 refine zx (zm ?_)
 refine zc (zD (zl (zx (zm ?_))))
 refine za ?_
 refine zZ ?_
 refine xh ?_
 refine ww (xl rfl Tryz.func151 rfl rfl rfl (whead_fn _ _ ⟨by omega, by omega⟩ ⟨by omega, by omega⟩)) ?_
 intro V1 hV1
 refine zc (zD (zl (zx (zx (zm ?_)))))
 refine za ?_
 refine zZ ?_
 refine za (zD (zl (yS ?_)))
 obtain ⟨h0, hh0⟩ : ∃ h0, h0 = u8 (32 * 4 + (l.length : Int)) := ⟨_, rfl⟩
 rw [← hh0]
 refine zg [(10, _), (11, _)] (fun nn E H => ∃ (k : Nat) (V : Value) (o : List UInt8), (k ≤ l.length) ∧ (V.oneCell' = true) ∧ (o = h0 :: (l.take k).flatten) ∧ nn = l.length - k ∧ E = [(3, .val V), (12, .val (.int .i64 (k : Int)))] ∧ H = [.row V 5 1 o.length (bytesA o)]) _ (⟨0, _, [h0], by omega, ‹_›, rfl, rfl, rfl, rfl⟩) ?_
 rintro nn E H ⟨k, V, o, hk, hV, ho, rfl, rfl, rfl⟩
 dsimp only [List.cons_append, List.nil_append]
 have hol : o.length = 1 + (l.take k).flatten.length := by rw [ho, List.length_cons]; omega
 have hkl := flat_take_le' l k
 refine zx (zm ?_)
 refine zH (zD (zl (zx ?_)))
 refine yn (fun hlt => ?_) (fun hlt => ?_) <;> (try simp only [wN] at hlt)
 ·skip
  have hs := flat_take_succ' l (k := k) (by omega)
  have hkl2 := flat_take_le' l (k + 1)
  rw [hs, List.length_append] at hkl2
  refine yN (zl (zx (yS (zx (zm ?_)))))
  refine yh ?_
  refine wI (O.loadR rfl rfl (by exact bsA_at (k := k) (by omega) (by omega))) ?_
  refine zc (zD (zl (zm ?_)))
  refine za ?_
  refine za ?_
  refine zy 0 rfl rfl rfl rfl (by rfl) (by rfl) rfl rfl rfl (by exact SrcA.ro TyD.ax (by (simp; done)) (Nat.le_of_ble_eq_true rfl)) (by (simp [AV.cells, AV.one, *]; done)) (by (unfold maxLen; omega)) ?_
  intro V2 hV2
  refine zc (zD (y5 (zl (zm ?_))))
  refine zr ?_
  refine za (zD ?_)
  rw [show bytesA o ++ bytesA (vat l k) = bytesA (o ++ vat l k) from (bytesA_app _ _).symm, show o.length + (vat l k).length = (o ++ vat l k).length from List.length_append.symm]
  refine zj _ _ _ (by omega) (⟨k + 1, _, o ++ vat l k, by omega, ‹_›, by rw [ho, hs]; rfl, rfl, rfl, rfl⟩)
 obtain rfl : k = l.length := by omega
 rw [List.take_length] at ho
 subst ho
 refine xD ?_
 refine xr ?_
 refine xA ?_
 refine yZ (zl (zx (zm ?_)))
 refine za ?_
 refine zc (zD (zl (y1 ?_)))
 refine AQ.g ?_
 refine z6 0 [2] ?_
 refine AQ.u ?_
 try dsimp only [List.map, List.eraseIdx, List.cons_append, List.nil_append]
 refine xK rfl rfl ⟨_, List.nil_sublist _, .nil⟩ (⟨rfl, rfl⟩)
set_option maxHeartbeats 4000000 in
theorem caad_fn (kid : List UInt8) (piv : Int) : Sp Tryz.prog 60 [roB kid, .val (.int .i64 piv)] [] (Is (resN (aadR kid piv))) := by
 refine yv Tryz.func60 _ Tryz.ntmps60 (fun w0 R0 => ?_)
 refine zx (zm ?_)
 refine zc ?_
 refine zc (zD (zl (zx (zx (zm ?_)))))
 refine za ?_
 refine zZ ?_
 refine y7 (zD (zl ?_))
 refine yn (fun h1 => ?_) (fun h1 => ?_) <;> (try simp only [wN] at h1)
 ·skip
  rw [aadR_1 (by omega)]
  refine zx (zm ?_)
  refine zc ?_
  refine zc (zD (zl (y1 (xi ?_))))
  refine FnQ.coe yx ye (⟨rfl, rfl⟩)
 have hk : kid.length ≤ 7 := by omega
 refine yN (zl (zx (zx (zm ?_))))
 refine za ?_
 refine zH ?_
 refine za ?_
 refine yu ?_
 refine AO.opG rfl rfl rfl (fun hp => yM 14 rfl (by exact hp)) ?_
 refine zB (zD (zl ?_))
 refine yn (fun h2 => ?_) (fun h2 => ?_) <;> (try simp only [wN] at h2)
 ·skip
  rw [aadR_2 (by omega) (by omega)]
  refine zx (zm ?_)
  refine zc ?_
  refine zc (zD (zl (y1 (xi ?_))))
  refine FnQ.coe yx ye (⟨rfl, rfl⟩)
 rw [aadR_3 (by omega) (by omega)]
 have hpl := pivB_len piv
 have hxl := aadX_len hk hpl
 have hsl : ∀ b : List UInt8, b.length < 24 → (strB b).length = 1 + b.length := fun b h => by rw [strB, head_lt h, List.length_append]; rfl
 have ha1 : Sp Tryz.prog 109 [.ro false 1 [roB (natB 10)]] [] (Is (roB (arrB [natB 10]))) := warr_fn [natB 10] (by simp) (by decide)
 have ha5 : Sp Tryz.prog 109 [.ro false 5 [roB (natB 1), roB (arrB [natB 10]), roB (strB kid), roB (strB (pivB piv)), roB (strB [])]] [] (Is (roB (aadX kid (pivB piv)))) := warr_fn [natB 1, arrB [natB 10], strB kid, strB (pivB piv), strB []] (by simp) (by
  have h1 := hsl kid (by omega)
  have h2 := hsl (pivB piv) (by omega)
  have h3 := hsl [] (by simp)
  have h4 : (natB 1).length = 1 := rfl
  have h5 : (arrB [natB 10]).length = 2 := rfl
  simp only [List.flatten_cons, List.flatten_nil, List.append_nil, List.length_append, List.length_nil] at h3 ⊢; omega)
 have ha3 : Sp Tryz.prog 109 [.ro false 3 [roB (txtB encT), roB (strB []), roB (strB (aadX kid (pivB piv)))]] [] (Is (roB (aadB kid (pivB piv)))) := warr_fn [txtB encT, strB [], strB (aadX kid (pivB piv))] (by simp) (by
  have h1 := hsl _ hxl
  have h3 := hsl [] (by simp)
  have h4 : (txtB encT).length = 9 := rfl
  simp only [List.flatten_cons, List.flatten_nil, List.append_nil, List.length_append, List.length_nil] at h3 ⊢; omega)
 generalize aadX kid (pivB piv) = x at *
 generalize aadB kid (pivB piv) = y at *
 generalize arrB [natB 10] = z at *
 refine yN (zl (zx (zm ?_)))
 refine wI (xl rfl Tryz.func110 rfl rfl rfl (wint_fn 10 (by omega))) ?_
 refine zK ?_
 intro B1
 refine AO.g ?_
 refine wB 0 18 rfl rfl ⟨Nat.le_refl _, by unfold maxLen; omega⟩ ?_
 refine xF 18 ?_
 refine AO.u ?_
 dsimp only [List.eraseIdx]
 refine wI (xl rfl Tryz.func109 rfl rfl rfl ha1) ?_
 refine zc (zD (zl (zx (zm ?_))))
 refine wI (xl rfl Tryz.func110 rfl rfl rfl (wint_fn 1 (by omega))) ?_
 refine za ?_
 refine za ?_
 refine wI (xl rfl Tryz.func111 rfl rfl rfl (wstr_fn _ (by omega))) ?_
 refine za ?_
 refine wI (xl rfl Tryz.func112 rfl rfl rfl (bytes_fn _)) ?_
 refine wI (xl rfl Tryz.func111 rfl rfl rfl (wstr_fn _ (by omega))) ?_
 refine wI (O.callC rfl Tryz.func111 rfl rfl rfl (wstr_fn [] (by simp)) (by (repeat (first | exact CoeL.nil | refine CoeL.cons Coe.nil ?_)); done)) ?_
 refine yD ?_
 intro B2
 refine AO.g ?_
 refine wB 0 28 rfl rfl ⟨Nat.le_refl _, by unfold maxLen; omega⟩ ?_
 refine xF 28 ?_
 refine AO.u ?_
 dsimp only [List.eraseIdx]
 refine wI (xl rfl Tryz.func109 rfl rfl rfl ha5) ?_
 refine zc (zD (zl (zx (zm ?_))))
 refine wI (xl rfl Tryz.func113 rfl rfl rfl wtxt_fn) ?_
 refine wI (O.callC rfl Tryz.func111 rfl rfl rfl (wstr_fn [] (by simp)) (by (repeat (first | exact CoeL.nil | refine CoeL.cons Coe.nil ?_)); done)) ?_
 refine za ?_
 refine wI (xl rfl Tryz.func111 rfl rfl rfl (wstr_fn _ (by omega))) ?_
 refine yD ?_
 intro B3
 refine AO.g ?_
 refine wB 0 34 rfl rfl ⟨Nat.le_refl _, by unfold maxLen; omega⟩ ?_
 refine xF 34 ?_
 refine AO.u ?_
 dsimp only [List.eraseIdx]
 refine wI (xl rfl Tryz.func109 rfl rfl rfl ha3) ?_
 refine zc ?_
 refine zc (zD (zl (y1 ?_)))
 refine AQ.ret2 rfl rfl rfl ⟨_, List.nil_sublist _, .nil⟩ (⟨rfl, rfl⟩)
end Go.Proofs.YtojomcdjcpmnkaaGreat.By

namespace Go.Proofs.YtojomcdjcpmnkaaGreat.By
open Go.RowKit L A
set_option linter.unusedVariables false
set_option maxRecDepth 20000
set_option linter.unusedSimpArgs false
attribute [local irreducible] AW AQ AO
theorem xor54 (a : UInt8) : Go.bits .xor .u8 (a.toNat : Int) 54 = ((a ^^^ 54).toNat : Int) := all256 (p := fun a => Go.bits .xor .u8 (a.toNat : Int) 54 = ((a ^^^ 54).toNat : Int)) (by decide +kernel) a
theorem xor92 (a : UInt8) : Go.bits .xor .u8 (a.toNat : Int) 92 = ((a ^^^ 92).toNat : Int) := all256 (p := fun a => Go.bits .xor .u8 (a.toNat : Int) 92 = ((a ^^^ 92).toNat : Int)) (by decide +kernel) a
theorem flat_take_le (l : List (List UInt8)) (k : Nat) : (l.take k).flatten.length ≤ l.flatten.length := by
 conv => rhs; rw [← List.take_append_drop k l]
 rw [List.flatten_append, List.length_append]; omega
theorem flat_take_succ (l : List (List UInt8)) {k : Nat} (h : k < l.length) : (l.take (k + 1)).flatten = (l.take k).flatten ++ vat l k := by
 rw [take_snoc [] h, List.flatten_append]; simp [vat]
theorem kjoin_fn (l : List (List UInt8)) (hl : l.length ≤ 1000000) (hf : l.flatten.length ≤ 1000000) : Sp Tryz.prog 150 [roBs l] [] (Is (roB l.flatten)) := by
 refine yv Tryz.func150 _ Tryz.ntmps150 (fun w0 R0 => ?_)
 refine zx (zm ?_)
 refine zc (zD (zl (zx (zm ?_))))
 refine zc (zD (zl (zx (zx (zm ?_)))))
 refine za ?_
 refine zZ ?_
 refine za (zD (zl (yS ?_)))
 refine AW.g ?_
 refine G.nilRow 5 1 ?_
 refine AW.u ?_
 refine zg [(6, _), (7, _)] (fun nn E H => ∃ (k : Nat) (V : Value), (k ≤ l.length) ∧ (V.oneCell' = true) ∧ nn = l.length - k ∧ E = [(3, .val V), (8, .val (.int .i64 (k : Int)))] ∧ H = [.row V 5 1 (l.take k).flatten.length (bytesA (l.take k).flatten)]) _ (⟨0, _, by omega, rfl, rfl, rfl, rfl⟩) ?_
 rintro nn E H ⟨k, V, hk, hV, rfl, rfl, rfl⟩
 dsimp only [List.cons_append, List.nil_append]
 have hkl := flat_take_le l k
 refine zx (zm ?_)
 refine zH (zD (zl (zx ?_)))
 refine yn (fun hlt => ?_) (fun hlt => ?_) <;> (try simp only [wN] at hlt)
 ·skip
  have hs := flat_take_succ l (k := k) (by omega)
  have hkl2 := flat_take_le l (k + 1)
  rw [hs, List.length_append] at hkl2
  refine yN (zl (zx (yS (zx (zm ?_)))))
  refine yh ?_
  refine wI (O.loadR rfl rfl (by exact bsA_at (k := k) (by omega) (by omega))) ?_
  refine zc (zD (zl (zm ?_)))
  refine za ?_
  refine za ?_
  refine zy 0 rfl rfl rfl rfl (by rfl) (by rfl) rfl rfl rfl (by exact SrcA.ro TyD.ax (by (simp; done)) (Nat.le_of_ble_eq_true rfl)) (by (simp [AV.cells, AV.one, *]; done)) (by (unfold maxLen; omega)) ?_
  intro V1 hV1
  refine zc (zD (y5 (zl (zm ?_))))
  refine zr ?_
  refine za (zD ?_)
  rw [show bytesA (l.take k).flatten ++ bytesA (vat l k) = bytesA (l.take (k + 1)).flatten by rw [hs, bytesA_app], show (l.take k).flatten.length + (vat l k).length = (l.take (k + 1)).flatten.length by rw [hs, List.length_append]]
  refine zj _ _ _ (by omega) (⟨k + 1, _, by omega, ‹_›, rfl, rfl, rfl⟩)
 obtain rfl : k = l.length := by omega
 rw [List.take_length]
 refine xD ?_
 refine xr ?_
 refine xA ?_
 refine yZ (zl (zx (zm ?_)))
 refine za ?_
 refine zc (zD (zl (y1 ?_)))
 refine AQ.g ?_
 refine z6 0 [2] ?_
 refine AQ.u ?_
 try dsimp only [List.map, List.eraseIdx, List.cons_append, List.nil_append]
 refine xK rfl rfl ⟨_, List.nil_sublist _, .nil⟩ (⟨rfl, rfl⟩)
theorem keyB_short {k : List UInt8} (h : k.length ≤ 64) : keyB k = k ++ List.replicate (64 - k.length) 0 := by
 unfold keyB
 rw [if_neg (by omega)]
theorem map_take_x (l : List UInt8) (c : UInt8) {k : Nat} (h : k < l.length) : (l.take (k + 1)).map (· ^^^ c) = (l.take k).map (· ^^^ c) ++ [bt l k ^^^ c] := by
 rw [take_bt h, List.map_append]; rfl
set_option maxHeartbeats 4000000 in
theorem hmac_fn (key b : List UInt8) (hk : key.length ≤ 64) (hb : b.length ≤ 900000) : Sp Tryz.prog 149 [roB key, roB b] [] (Is (roB (hmac key b))) := by
 have hkb := keyB_short hk
 refine yv Tryz.func149 _ Tryz.ntmps149 (fun w0 R0 => ?_)
 refine zx (zm ?_)
 refine zc (zD (zl (zx (zm ?_))))
 refine za ?_
 refine ww (O.appendNil rfl (by rfl) (by rfl) rfl rfl (by exact SrcA.ro TyD.ax (by (simp; done)) (Nat.le_of_ble_eq_true rfl)) (by (simp [AV.cells, AV.one, *]; done)) (by (unfold maxLen; omega)) (by omega)) ?_
 intro V1 hV1
 refine zc (zD (zl (zx (zx (zm ?_)))))
 refine za ?_
 refine xN ?_
 refine wI (O.gtr rfl rfl rfl (by exact bFalse (by omega))) (zD (zl ?_))
 refine AW.condF rfl (yN (zl (zx (yS ?_))))
 refine zg [(1, _)] (fun nn E H => ∃ (q : Nat) (V : Value) (l : List UInt8), (q ≤ 64 - key.length) ∧ (V.oneCell' = true) ∧ (l = key ++ List.replicate q 0) ∧ nn = 64 - key.length - q ∧ E = [(5, .val V)] ∧ H = [.row V 5 1 l.length (bytesA l)]) _ (⟨0, _, key, by omega, ‹_›, by simp, rfl, rfl, rfl⟩) ?_
 rintro nn E H ⟨q, V, l, hq, hV, hl, rfl, rfl, rfl⟩
 dsimp only [List.cons_append, List.nil_append]
 have hll : l.length = key.length + q := by rw [hl]; simp
 refine zx (zx (zm ?_))
 refine za ?_
 refine xN ?_
 refine zH (zD (zl ?_))
 refine yn (fun h1 => ?_) (fun h1 => ?_) <;> (try simp only [wN] at h1)
 ·skip
  have hgu : bytesA (l ++ [0]) = bytesA l ++ [.val (.int .u8 0)] := bytes_snoc0 l 0
  have hgl : (l ++ [0]).length = l.length + 1 := by simp
  refine yN (zl (yS (zm ?_)))
  refine za ?_
  refine zK ?_
  intro B2
  refine AO.g ?_
  refine wB 0 21 rfl rfl ⟨Nat.le_refl _, by unfold maxLen; omega⟩ ?_
  refine xF 21 ?_
  refine AO.u ?_
  dsimp only [List.eraseIdx]
  refine zY 0 rfl rfl rfl rfl (by rfl) (by rfl) rfl rfl rfl (by exact SrcA.ro TyD.ax (by rfl) (Nat.le_of_ble_eq_true rfl)) (by rfl) (by (unfold maxLen; omega)) ?_
  intro V3 hV3
  refine zc (zD (y5 ?_))
  rw [show bytesA l ++ _ = _ from hgu.symm, ← hgl]
  refine zj _ _ _ (by omega) (⟨q + 1, _, l ++ [0], by omega, ‹_›, by rw [hl, List.replicate_succ', List.append_assoc], rfl, rfl, rfl⟩)
 obtain ⟨K, hK⟩ : ∃ K, K = keyB key := ⟨_, rfl⟩
 have hlK : l = K := by rw [hK, hkb, hl, show 64 - key.length = q by omega]
 have hKl : K.length = 64 := by rw [hK]; exact keyB_len key
 have hmac0 : hmac key b = sha (K.map (· ^^^ 92) ++ sha (K.map (· ^^^ 54) ++ b)) := by rw [hK]; rfl
 rw [hmac0]
 subst hlK
 refine AW.g ?_
 refine z6 0 [5] ?_
 refine AW.u ?_
 try dsimp only [List.map, List.eraseIdx, List.cons_append, List.nil_append]
 refine xD ?_
 refine xr ?_
 refine xA ?_
 refine yZ (zl (zx (zm ?_)))
 refine zc ?_
 refine zc (zD (zl (zx (zx (zm ?_)))))
 refine za ?_
 refine zZ ?_
 refine za (zD (zl (yS ?_)))
 refine AW.g ?_
 refine G.nilRow 5 1 ?_
 refine AW.u ?_
 refine AW.g ?_
 refine G.nilRow 5 1 ?_
 refine AW.u ?_
 refine zg [(1, _), (23, _), (24, _)] (fun nn E H => ∃ (i : Nat) (V V' : Value), (i ≤ 64) ∧ (V.oneCell' = true) ∧ (V'.oneCell' = true) ∧ nn = 64 - i ∧ E = [(6, .val V), (7, .val V'), (25, .val (.int .i64 (i : Int)))] ∧ H = [.row V 5 1 i (bytesA ((l.take i).map (· ^^^ 54))), .row V' 5 1 i (bytesA ((l.take i).map (· ^^^ 92)))]) _ (⟨0, .slice none 0 0, .slice none 0 0, by omega, rfl, rfl, rfl, rfl, rfl⟩) ?_
 rintro nn E H ⟨i, V, V', hi, hV, hV', rfl, rfl, rfl⟩
 dsimp only [List.cons_append, List.nil_append]
 refine zx (zm ?_)
 refine zH (zD (zl (zx ?_)))
 refine yn (fun h2 => ?_) (fun h2 => ?_) <;> (try simp only [wN] at h2)
 ·skip
  have hil : i < l.length := by omega
  have h5 := map_take_x l 54 hil
  have h9 := map_take_x l 92 hil
  have g5 : bytesA ((l.take i).map (· ^^^ 54)) ++ [.val (.int .u8 (((bt l i) ^^^ 54).toNat : Int))] = bytesA ((l.take (i + 1)).map (· ^^^ 54)) := by rw [h5]; exact (bytes_snoc0 _ _).symm
  have g9 : bytesA ((l.take i).map (· ^^^ 92)) ++ [.val (.int .u8 (((bt l i) ^^^ 92).toNat : Int))] = bytesA ((l.take (i + 1)).map (· ^^^ 92)) := by rw [h9]; exact (bytes_snoc0 _ _).symm
  refine yN (zl (zx (yS (zx (zm ?_)))))
  refine yh ?_
  refine wI (O.loadR rfl rfl (by exact bt_at (by assumption) (by omega))) ?_
  refine zc (zD (zl (zm ?_)))
  refine za ?_
  refine za ?_
  refine wI (O.xor_ rfl rfl rfl (xor54 _)) ?_
  refine zK ?_
  intro B4
  refine AO.g ?_
  refine wB 0 32 rfl rfl ⟨Nat.le_refl _, by unfold maxLen; omega⟩ ?_
  refine xF 32 ?_
  refine AO.u ?_
  dsimp only [List.eraseIdx]
  refine zY 0 rfl rfl rfl rfl (by rfl) (by rfl) rfl rfl rfl (by exact SrcA.ro TyD.ax (by rfl) (Nat.le_of_ble_eq_true rfl)) (by rfl) (by (unfold maxLen; omega)) ?_
  intro V5 hV5
  refine za ?_
  refine za ?_
  refine wI (O.xor_ rfl rfl rfl (xor92 _)) ?_
  refine zK ?_
  intro B6
  refine AO.g ?_
  refine wB 0 37 rfl rfl ⟨Nat.le_refl _, by unfold maxLen; omega⟩ ?_
  refine xF 37 ?_
  refine AO.u ?_
  dsimp only [List.eraseIdx]
  refine zY 1 rfl rfl rfl rfl (by rfl) (by rfl) rfl rfl rfl (by exact SrcA.ro TyD.ax (by rfl) (Nat.le_of_ble_eq_true rfl)) (by rfl) (by (unfold maxLen; omega)) ?_
  intro V7 hV7
  refine zc ?_
  refine zc (zD (y5 (zl (zm ?_))))
  refine zr ?_
  refine za (zD ?_)
  rw [show bytesA ((l.take i).map (· ^^^ 54)) ++ _ = _ from g5, show bytesA ((l.take i).map (· ^^^ 92)) ++ _ = _ from g9]
  refine zj _ _ _ (by omega) (⟨i + 1, V5, V7, by omega, hV5, hV7, rfl, rfl, rfl⟩)
 obtain rfl : i = 64 := by omega
 rw [List.take_of_length_le (by omega)]
 have l5 : (l.map (· ^^^ 54)).length = 64 := by rw [List.length_map]; omega
 have l9 : (l.map (· ^^^ 92)).length = 64 := by rw [List.length_map]; omega
 generalize l.map (· ^^^ 54) = X at *
 generalize l.map (· ^^^ 92) = Y at *
 have hshl : (sha (X ++ b)).length = 32 := sha_len _
 have e43 : AV.ro false (64 + b.length) (bytesA X ++ bytesA b) = roB (X ++ b) := by rw [← l5, ← List.length_append, ← bytesA_app]; rfl
 have e45 : AV.ro false (64 + (sha (X ++ b)).length) (bytesA Y ++ bytesA (sha (X ++ b))) = roB (Y ++ sha (X ++ b)) := by rw [← l9, ← List.length_append, ← bytesA_app]; rfl
 refine xD ?_
 refine xr ?_
 refine xA ?_
 refine yZ (zl (zx (zm ?_)))
 refine za ?_
 refine za ?_
 refine za ?_
 refine zY 0 rfl rfl rfl rfl (by rfl) (by rfl) rfl rfl rfl (by exact SrcA.ro TyD.ax (by (simp; done)) (Nat.le_of_ble_eq_true rfl)) (by (simp [AV.cells, AV.one, *]; done)) (by (unfold maxLen; omega)) ?_
 intro V8 hV8
 refine AO.g ?_
 refine yU 0 [43] ?_
 refine AO.u ?_
 dsimp only [List.map, List.eraseIdx, List.cons_append, List.nil_append]
 rw [e43]
 refine wI (xl rfl Tryz.func176 rfl rfl rfl (sum_fn _ (by (simp only [List.length_append, List.length_map, sha_len]; omega)))) ?_
 refine zY 0 rfl rfl rfl rfl (by rfl) (by rfl) rfl rfl rfl (by exact SrcA.ro TyD.ax (by rfl) (Nat.le_of_ble_eq_true rfl)) (by rfl) (by (unfold maxLen; omega)) ?_
 intro V9 hV9
 refine AO.g ?_
 refine yU 0 [45] ?_
 refine AO.u ?_
 dsimp only [List.map, List.eraseIdx, List.cons_append, List.nil_append]
 rw [e45]
 refine wI (xl rfl Tryz.func176 rfl rfl rfl (sum_fn _ (by (simp only [List.length_append, List.length_map, sha_len]; omega)))) ?_
 refine zc (zD (zl (y1 ?_)))
 refine xK rfl rfl ⟨_, List.nil_sublist _, .nil⟩ (⟨rfl, rfl⟩)
theorem extract_fn (key b : List UInt8) (hk : key.length ≤ 64) (hb : b.length ≤ 900000) : Sp Tryz.prog 104 [roB key, roB b] [] (Is (roB (hmac key b))) := by
 refine yv Tryz.func104 _ Tryz.ntmps104 (fun w0 R0 => ?_)
 refine zx (zm ?_)
 refine zc (zD (zl (zx (zm ?_))))
 refine za ?_
 refine za ?_
 refine wI (xl rfl Tryz.func149 rfl rfl rfl (hmac_fn _ _ (by omega) (by omega))) ?_
 refine zc (zD (zl (y1 ?_)))
 refine xK rfl rfl ⟨_, List.nil_sublist _, .nil⟩ (⟨rfl, rfl⟩)
theorem expand_fn (prk info : List UInt8) (n : Nat) (hp : prk.length ≤ 64) (hi : info.length ≤ 100000) (hn : n ≤ 8160) : Sp Tryz.prog 105 [roB prk, roB info, .val (.int .i64 (n : Int))] [] (Is (.tup [roB (expand prk info n), .val (.int .i64 0)])) := by
 refine yv Tryz.func105 _ Tryz.ntmps105 (fun w0 R0 => ?_)
 refine zx (zm ?_)
 refine zc ?_
 refine zc (zD (zl (zx (zx (zm ?_)))))
 refine za ?_
 refine wI (O.lss rfl rfl rfl (by exact bFalse (by omega))) ?_
 refine za ?_
 refine za ?_
 refine wI (O.gtr rfl rfl rfl (by exact bFalse (by omega))) ?_
 refine wI (O.pickF rfl rfl rfl) (zD (zl ?_))
 refine AW.condF rfl (yN (zl (zx (zm ?_))))
 refine zc ?_
 refine zc (zD (zl (zx (zx (zm ?_)))))
 refine zc (zD (zl (yS ?_)))
 refine AW.g ?_
 refine G.nilRo 9 rfl ?_
 refine AW.u ?_
 try dsimp only [List.map, List.eraseIdx, List.cons_append, List.nil_append]
 refine AW.g ?_
 refine G.nilRow 5 1 ?_
 refine AW.u ?_
 refine zg [(0, _), (1, _), (2, _)] (fun nn E H => ∃ (k : Nat) (V : Value), (k ≤ (n + 31) / 32) ∧ (V.oneCell' = true) ∧ nn = (n + 31) / 32 - k ∧ E = [(8, .val V), (9, roB (expT prk info k)), (10, .val (.int .i64 ((k : Int) + 1)))] ∧ H = [.row V 5 1 (expAll prk info k).length (bytesA (expAll prk info k))]) _ (⟨0, _, by omega, rfl, rfl, rfl, rfl⟩) ?_
 rintro nn E H ⟨k, V, hk, hV, rfl, rfl, rfl⟩
 dsimp only [List.cons_append, List.nil_append]
 have hal := expAll_len prk info k
 have htl : (expT prk info k).length ≤ 32 := by
  cases k with
  | zero => simp [expT]
  | succ k => rw [expT_len]; omega
 refine zx (zx (zm ?_))
 refine za ?_
 refine xN ?_
 refine za ?_
 refine zH (zD (zl ?_))
 refine yn (fun h1 => ?_) (fun h1 => ?_) <;> (try simp only [wN] at h1)
 ·skip
  have hjn : Sp Tryz.prog 150 [.ro false 3 [roB (expT prk info k), roB info, .ro false 1 [.val (.int .u8 ((u8 ((k : Int) + 1)).toNat : Int))]]] [] (Is (roB (expT prk info k ++ info ++ [UInt8.ofNat (k + 1)]))) := by
   have h := kjoin_fn [expT prk info k, info, [u8 ((k : Int) + 1)]] (by simp) (by simp; omega)
   rw [show [expT prk info k, info, [u8 ((k : Int) + 1)]].flatten = expT prk info k ++ info ++ [UInt8.ofNat (k + 1)] by rw [ofNat_u8]; simp] at h
   exact h
  have hhm : Sp Tryz.prog 149 [roB prk, roB (expT prk info k ++ info ++ [UInt8.ofNat (k + 1)])] [] (Is (roB (expT prk info (k + 1)))) := hmac_fn _ _ hp (by simp; omega)
  have hst := expAll_step prk info k
  have hsl : (expAll prk info (k + 1)).length = (expAll prk info k).length + (expT prk info (k + 1)).length := by rw [hst, List.length_append]
  have htl2 := expT_len prk info k
  refine yN (zl (zx (yS (zx (zm ?_)))))
  refine za ?_
  refine za ?_
  refine za ?_
  refine za ?_
  refine yA ?_
  refine zK ?_
  intro B1
  refine AO.g ?_
  refine wB 0 28 rfl rfl ⟨Nat.le_refl _, by unfold maxLen; omega⟩ ?_
  refine xF 28 ?_
  refine AO.u ?_
  dsimp only [List.eraseIdx]
  refine yD ?_
  intro B2
  refine AO.g ?_
  refine wB 0 29 rfl rfl ⟨Nat.le_refl _, by unfold maxLen; omega⟩ ?_
  refine xF 29 ?_
  refine AO.u ?_
  dsimp only [List.eraseIdx]
  refine wI (xl rfl Tryz.func150 rfl rfl rfl hjn) ?_
  refine wI (xl rfl Tryz.func149 rfl rfl rfl hhm) ?_
  refine zc (zD (zl (zm ?_)))
  refine za ?_
  refine za ?_
  refine zy 0 rfl rfl rfl rfl (by rfl) (by rfl) rfl rfl rfl (by exact SrcA.ro TyD.ax (by rfl) (Nat.le_of_ble_eq_true rfl)) (by rfl) (by (unfold maxLen; omega)) ?_
  intro V3 hV3
  refine zc (zD (y5 (zl (zm ?_))))
  refine za ?_
  refine zr ?_
  refine zc (zD ?_)
  rw [show bytesA (expAll prk info k) ++ _ = bytesA (expAll prk info (k + 1)) by rw [hst, bytesA_app], ← hsl]
  refine zj _ _ _ (by omega) (⟨k + 1, _, by omega, ‹_›, rfl, rfl, rfl⟩)
 have hke : k = (n + 31) / 32 := by omega
 have hex : expand prk info n = (expAll prk info k).take n := by rw [hke]; rfl
 rw [hex]
 generalize expAll prk info k = o at *
 refine AW.g ?_
 refine z6 0 [8] ?_
 refine AW.u ?_
 try dsimp only [List.map, List.eraseIdx, List.cons_append, List.nil_append]
 refine xD ?_
 refine xr ?_
 refine xA ?_
 refine yZ (zl (zx (zm ?_)))
 refine za ?_
 refine za ?_
 refine wI (O.sliceToB (k := n) rfl rfl rfl (by rfl) (by omega)) ?_
 refine zc ?_
 refine zc (zD (zl (y1 ?_)))
 refine AQ.ret2 rfl rfl rfl ⟨_, List.nil_sublist _, .nil⟩ (⟨rfl, rfl⟩)
end Go.Proofs.YtojomcdjcpmnkaaGreat.By
